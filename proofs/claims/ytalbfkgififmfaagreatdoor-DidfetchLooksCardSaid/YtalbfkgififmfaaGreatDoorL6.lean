import Derived.Test.YtalbfkgififmfaaGreatDoorL5
set_option linter.defProp false
set_option linter.unusedVariables false
set_option linter.unusedSimpArgs false
namespace Go.VM
section
variable{N:Nat}
def ACd{l:B8} (h:J9 l=0):2<=l.length:=AW4 (AnX h)
def AeJ{a:B8}{p:Nat} (hp:p<=a.length) (h:J9 (Fe (a.drop p))=0):TR (Fe (a.drop p))=a.drop (p+(Hr (a.drop p)).length+2)/\p+(Hr (a.drop p)).length+2<=a.length:=by have h1:=ACd h;have h2:=ACa (a.drop p);rw[aG]at h2;refine⟨?_,fM⟩;unfold TR;rw[an h,<-Xu,aT,aT,cH]
theorem ACq{a:B8} (hb:a.length<=1000000) (hN:1000010<=N) (buf:B8) (ad:Bool) (b0:CA) (s:Int): ∀(k p:Nat),p<=a.length->a.length-p<k->∃e:Int,(e=0\/e=191\/e=190)/\GX N (b0,ad,buf) k ⟨a.drop p,s⟩=some (if e=0 then(buf,0)else([],e))/\Gr N a k (p:Int)=some e
 |0,p,_,h=>absurd h (cr _)
 | k+1,p,hp,hk=>by
  rw[GX,Gr,AVT s (by rw[aG];omega) fM,aa,AD0 hb hp,aa];simp only[AB];have ho:=AJO (Fe (a.drop p));by_cases hE:J9 (Fe (a.drop p))=0
  ·obtain⟨n1,n2⟩:=AeJ hp hE;have z:((0:Int) !=0)=false:=rfl;simp only[n1,hE,az,z,ap,aA];by_cases ht:(Hr (a.drop p)==[])=true;·simp only[ht,az];exact⟨0,.inl rfl,rfl,rfl⟩
   ·simp only[ht,aA];exact ACq hb hN buf ad b0 s k (p+(Hr (a.drop p)).length+2) n2 fM
  ·rw[aj hE,an (by simpa using hE),an (by simpa using hE)];refine⟨_,ho,?_,rfl⟩;rw[aj hE]
def Aky (m:Nat) (l:B8):0<=(Zk m l).1/\(Zk m l).1<=m:=by
 unfold Zk;split;·exact⟨bE 0,fM⟩
 ·split
  ·split;·exact⟨by simp only;omega,by simp only;omega⟩
   ·exact⟨bE 0,fM⟩
  ·exact⟨bE 0,fM⟩
def AiZ (l:B8):0<=AF0 l/\AF0 l<=4611686018427387904:=by unfold AF0;have:=Aky 4611686018427387904 (hxT l);split<;>omega
def AgB (l:B8):0<=(NN l).1/\(NN l).1<=4611686018427387904/\((NN l).2.2=0->(NN l).2.1<=l.length/\2<=(NN l).2.1)/\((NN l).2.2=0\/(NN l).2.2=191\/(NN l).2.2=190):=by
 have hl:=AHa l;unfold NN;cases hr:hxR l with
 |nil=>exact⟨bE 0,(by show(0:Int)<=4611686018427387904;decide),nofun,.inr (.inl rfl)⟩
 | cons x t=>
  rw[hr]at hl;simp only;split;·exact⟨bE 0,(by show(0:Int)<=4611686018427387904;decide),nofun,.inr (.inr rfl)⟩
  ·split;·rename_i hE;have h2:=ACd hE;have h3:=ACa (x::t);have h4:=AiZ l;exact⟨h4.1,h4.2,λ_=>by simp only;omega,.inl rfl⟩
   ·rename_i hE;exact⟨bE 0,(by show(0:Int)<=4611686018427387904;decide),λh=>absurd h hE,AJO _⟩
def AoY{l:B8} (h:J9 l=0):Hr l=[]/\Fe l=l:=by obtain⟨t,rfl⟩:=RU (AnX h);exact⟨rfl,rfl⟩
def Anw{l:B8} (h:Hr l=[]):Fe l=l:=by have:=ApS l;rwa[h]at this
theorem ADh{a:B8} (hb:a.length<=1000000) (hN:1000010<=N){lim:Int} (hlim:0<=lim): ∀(k p:Nat) (s:Int) (ad:Bool) (buf:B8),p<=a.length->a.length-p<k->buf.length+(a.length-p)<=1000000->∃r,GQ N lim (λj1=>GX N j1 N j1.1) k (a.drop p) s ad buf=some r/\FU N a lim k buf (p:Int)=some r/\r.1.length<=buf.length+(a.length-p)/\(r.2=0\/r.2=142\/r.2=191\/r.2=190)/\(r.2≠0->r.1=[])
 |0,p,s,ad,buf,_,h,_=>absurd h (cr _)
 | k+1,p,s,ad,buf,hp,hk,hbuf=>by
  have hal:(a.drop p).length=a.length-p:=aG;obtain⟨b,hb1,hb2⟩:=AeL (N:=N) (l:=a.drop p) s fM hN;obtain⟨r1,r2,r3,r4⟩:=AgB (a.drop p);rw[GQ,FU,hb1,aa,AmP hb hp hN,aa];simp only[AB];by_cases h0:(NN (a.drop p)).2.2=0
  ·obtain⟨c1,c2⟩:=r3 h0;have hb3:=hb2 h0;subst hb3;have z:((0:Int) !=0)=false:=rfl;have zl:decide (lim<0)=false:=aF fM;simp only[h0,az,z,zl,ap,aA];generalize hc:(NN (a.drop p)).2.1=c at *;generalize hz:(NN (a.drop p)).1=z at *;have hL:KE N ⟨ad,buf⟩=some ((buf.length:Int),⟨ad,buf⟩):=rfl;rw[hL,aa];by_cases hov:decide (z>wr .u64 (wr .i64 (lim-(buf.length:Int))))=true;·simp only[hov,az];exact⟨_,rfl,rfl,aM _,.inr (.inl rfl),λ_=>rfl⟩
   ·simp only[hov,aA];by_cases hz0:(z==0)=true
    ·simp only[hz0,az,aT];obtain⟨e,e1,e2,e3⟩:=ACq hb hN buf ad ⟨a.drop (p+c),z⟩ z N (p+c) fM fM;rw[e2];unfold QQ;rw[e3,aa];by_cases he:e=0;·subst he;exact⟨_,rfl,rfl,by simp only[az];omega,.inl rfl,λh=>absurd rfl h⟩
     ·have he2:(e !=0)=true:=by simpa using he
      simp only[he,he2,az,aA];exact⟨_,rfl,rfl,aM _,by simp only;omega,λ_=>rfl⟩
    ·simp only[hz0,aA,aT];have hal2:(a.drop (p+c)).length=a.length-(p+c):=aG;have hz1:z≠0:=by simpa using hz0
     have w1:wr .u64 ((a.drop (p+c)).length:Int)=((a.length-(p+c):Nat):Int):=by rw[hal2,Fw fM]
     have w2:wr .i64 ((a.length:Int)-((p+c:Nat):Int))=((a.length-(p+c):Nat):Int):=by rw[Ak fM];omega
     have w3:wr .i64 z=z:=Ak fM;rw[w1,w2,w3];by_cases hlt:((a.length-(p+c):Nat):Int)<z;·simp only[aC hlt,az];exact⟨_,rfl,rfl,aM _,.inr (.inr (.inl rfl)),λ_=>rfl⟩
     ·obtain⟨n,rfl⟩: ∃n:Nat,z=(n:Int):=⟨z.toNat,fM⟩;simp only[aF hlt,ap,aA];have s1:=Av (a.drop (p+c)) 0 n fM fM;rw[aN,bw]at s1;have w4:wr .i64 (((p+c:Nat):Int)+(n:Int))=((p+c+n:Nat):Int):=by rw[Ak fM];omega
      have s2:=Av a (p+c) (p+c+n) fM fM;rw[show p+c+n-(p+c)=n by omega]at s2;have hx:((a.drop (p+c)).take n).length=n:=by rw[bb];omega
      simp only[show((0:Nat):Int)=0 from rfl]at s1;rw[s1,aa,w4,s2,aa,Q6 _ _ _ fM,aa,BP fM,aa,aT,Acp,aa,Ap fM,AD0 hb fM,aa];generalize hq:p+c+n=q at *;have ho:=AJO (a.drop q);by_cases hE:J9 (a.drop q)=0
      ·obtain⟨t1,t2⟩:=AoY hE;have hl2:=ACd hE;rw[aG]at hl2;have hA:TR (a.drop q)=a.drop (q+2):=by unfold TR;rw[an hE,aT]
       simp only[t1,t2,hE,hA,az,z,ap,aA];have ih:=ADh hb hN hlim k (q+2) (n:Int) true (buf++(a.drop (p+c)).take n) fM fM (by rw[ag,hx];omega);obtain⟨r,i1,i2,i3,i4⟩:=ih;refine⟨r,i1,?_,?_,i4⟩;·exact i2
       ·rw[ag,hx]at i3;omega
      ·have hE2:(J9 (a.drop q) !=0)=true:=by simpa using hE
       simp only[hE2,az];have hno: ¬(J9 (Fe (a.drop q))=0/\Hr (a.drop q)=[]):=λh=>hE (by rw[Anw h.2]at h;exact h.1);have hxs:sub a (q:Int) (a.length:Int)=some (a.drop q):=BP fM;have hEv:(if(a.drop q==[])=true then some (([]:B8),(191:Int))else if(a.drop q==[13])=true then some ([],191)else some ([],190))=some ([],J9 (a.drop q)):=by
        have hpf: ¬preB [13,10] (a.drop q)=true:=λh=>hE (by unfold J9;rw[an h]);unfold J9;rw[aj hpf];cases a.drop q==[];·cases a.drop q==([13]:B8)<;>rfl
        ·rfl
       refine⟨_,rfl,?_,aM _,by simp only;omega,λ_=>rfl⟩;by_cases h1:J9 (Fe (a.drop q))=0
       ·have h2:(Hr (a.drop q)==[])=false:=by rw[bB];exact λh=>hno ⟨h1,h⟩
        have z0:((0:Int)==0)=true:=rfl;simp only[h1,h2,az,z0,ap,aA,hxs,aa];exact hEv
       ·have h3:(J9 (Fe (a.drop q))==0)=false:=by simpa using h1
        simp only[h1,h3,ap,aA,hxs,aa];exact hEv
  ·rw[aj h0,an (by simpa using h0),an (by simpa using h0)];exact⟨_,rfl,rfl,aM _,by simp only;omega,λ_=>rfl⟩
def AKZ{a:B8} (hb:a.length<=1000000) (hN:1000010<=N){lim:Int} (hlim:0<=lim): ∃r,PD N a lim=some r/\Lj N a lim=some r/\r.1.length<=a.length/\(r.2=0\/r.2=142\/r.2=191\/r.2=190)/\(r.2≠0->r.1=[]):=by obtain⟨r,h1,h2,h3,h4⟩:=ADh hb hN hlim N 0 0 false [] (aM _) fM fP;refine⟨r,?_,h2,by simpa using h3,h4⟩;unfold PD;rw[AB];exact h1
def Ff:Nat->B8->Option (List (Bool×UInt8))|0,_=>none|_+1,[]=>some []|k+1,c::t=>if c=37 then(match OI t with|some x=>(Ff k (t.drop 2)).map ((true,x):: ·)|none=>none)else(Ff k t).map ((false,c):: ·)
def AKD: ∀(k k':Nat) (t:B8),t.length<k->t.length<k'->Ff k t=Ff k' t
 |0,_,_,h,_=>by omega
 |_,0,_,_,h=>by omega
 |k+1,k'+1,[],_,_=>rfl
 |k+1,k'+1,c::t,h,h'=>by
  simp only[ae]at h h';rw[Ff,Ff];split;·cases he:OI t with|none=>rfl|some x=>simp only;rw[AKD k k' (t.drop 2) (by grind) (by grind)]
  ·rw[AKD k k' t fM fM]
def unS (t:B8):Option (List (Bool×UInt8)):=Ff (t.length+1) t
def Aah{k:Nat}{t:B8} (h:t.length<k):Ff k t=unS t:=AKD k _ t h (fe _)
theorem AAo: ∀(k:Nat) (t out:B8),t.length<k->Vs k t out=(match Ff k t with|some us=>(out++us.map (·.2),0)|none=>([],2))
 |0,_,_,h=>by omega
 |k+1,[],out,_=>by simp[Vs,Ff]
 |k+1,c::t,out,h=>by
  simp only[ae]at h;rw[Vs,Ff];split;·cases he:OI t with|none=>rfl|some x=>simp only;rw[AAo k (t.drop 2) (out++[x]) (by grind)];cases Ff k (t.drop 2)<;>simp
  ·rw[AAo k t (out++[c]) fM];cases Ff k t<;>simp
def nuC (u:Bool×UInt8):B8:=if u.1=true then(if Eh u.2=true then [u.2]else OO u.2)else [u.2]
def okN (also:B8) (u:Bool×UInt8):Bool:=u.1||(Eh u.2||also.contains u.2)
def AM8 (also:B8): ∀(k:Nat) (t out:B8) (us:List (Bool×UInt8)),t.length<k->Ff k t=some us->VP also k t out=if us.all (okN also)=true then(out++us.flatMap nuC,0)else([],1)
 |0,_,_,_,h,_=>by omega
 |k+1,[],out,us,_,hu=>by grind[Ff,VP]
 | k+1,c::t,out,us,h,hu=>by
  simp only[ae]at h;rw[Ff]at hu;rw[VP];split at hu;·rename_i hc;rw[an hc];cases he:OI t with|none=>grind|some x=>rw[he]at hu;simp only[aX]at hu;obtain⟨vs,hv,rfl⟩:=hu;simp only;rw[AM8 also k (t.drop 2) _ vs (by grind) hv,aQ,show okN also (true,x)=true from rfl,bM,aR,<-aJ];rfl
  ·rename_i hc;rw[aj hc];simp only[aX]at hu;obtain⟨vs,hv,rfl⟩:=hu;have ih:=AM8 also k t (out++[c]) vs fM hv;cases AX:(Eh c||also.contains c);·simp_all[okN]
   ·rw[an rfl,ih,aQ,show okN also (false,c)=true from AX,bM,aR,<-aJ];rfl
def AxG:J5 58=false:=fO
def AoE{p r:B8} (h58: ∀x,x∈p->x≠58):OI (p++58::r)=OI p/\(OI p≠none->2<=p.length):=by
 match p with
 |[]=>refine⟨?_,λh=>absurd rfl h⟩;cases r with|nil=>rfl|cons y r=>simp[OI,AxG]
 |[a]=>exact⟨by simp[OI,AxG],λh=>absurd rfl h⟩
 |a::b::q=>exact⟨rfl,λ_=>by simp⟩
theorem ADx: ∀(k:Nat) (p r:B8),(p++58::r).length<k->(∀x,x∈p->x≠58)->Ff k (p++58::r)=(unS p).bind λu=>(unS r).map λv=>u++(false,58)::v
 |0,_,_,h,_=>by omega
 |k+1,[],r,h,_=>by simp only[bl,ae]at h;rw[bl,Ff,aj fO,Aah fM];have:unS []=some []:=rfl;grind
 |k+1,c::p,r,h,h58=>by
  simp only[bD,ae,ag]at h;have hp58: ∀x,x∈p->x≠58:=λx AX=>h58 x (by grind);rw[bD,Ff];have hunS:unS (c::p)=if c=37 then(match OI p with|some x=>(Ff (p.length+1) (p.drop 2)).map ((true,x):: ·)|none=>none)else(Ff (p.length+1) p).map ((false,c):: ·):=rfl;rw[hunS];obtain⟨e1,e2⟩:=AoE (r:=r) hp58;split;·rw[e1];cases he:OI p with|none=>rfl|some x=>have h2:2<=p.length:=e2 (by grind);simp only;rw[cA h2,ADx k (p.drop 2) r (by grind) (λy hy=>hp58 y (cy hy)),Aah (t:=p.drop 2) (by grind)];cases unS (p.drop 2)with|none=>rfl|some u=>cases unS r<;>rfl
  ·rw[ADx k p r (by grind) hp58,Aah (t:=p) fM];cases unS p with|none=>rfl|some u=>cases unS r<;>rfl
def AHP (x:UInt8) (AX:J5 x=false) (h37:x≠37): ∀(k:Nat) (t:B8) (us:List (Bool×UInt8)),Ff k t=some us->t.contains x=us.any λu=>!u.1&&u.2==x
 |0,_,_,h=>by cases h
 |k+1,[],us,h=>by grind[Ff]
 | k+1,c::t,us,h=>by
  rw[Ff]at h;split at h
  ·rename_i hc;match t,h with
   |[],h=>cases h
   |[_],h=>cases h
   | a::b::r,h=>
    simp only[OI]at h;by_cases hh:(J5 a&&J5 b)=true
    ·rw[an hh]at h;simp only[aX]at h;obtain⟨vs,hv,rfl⟩:=h;have ih:=AHP x AX h37 k r vs hv;rw[aw]at hh;have ha:(x==a)=false:=by simp only[bB,eA];rintro rfl;grind
     have hb:(x==b)=false:=by simp only[bB,eA];rintro rfl;grind
     simp_all
    simp_all
  ·simp only[aX]at h;obtain⟨vs,hv,rfl⟩:=h;rw[bA,AHP x AX h37 k t vs hv,bN];congr 1;simp only[ba,bM];grind
def AXw (f:UInt8->Bool) (hf: ∀c,J5 c=true->f c=true) (h37:f 37=true): ∀(k:Nat) (t:B8) (us:List (Bool×UInt8)),Ff k t=some us->t.all f=us.all λu=>u.1||f u.2
 |0,_,_,h=>by cases h
 |k+1,[],us,h=>by grind[Ff]
 | k+1,c::t,us,h=>by
  rw[Ff]at h;split at h
  ·rename_i hc;match t,h with
   |[],h=>cases h
   |[_],h=>cases h
   |a::b::r,h=>
    simp only[OI]at h;by_cases hh:(J5 a&&J5 b)=true;·rw[an hh]at h;simp only[aX]at h;obtain⟨vs,hv,rfl⟩:=h;have ih:=AXw f hf h37 k r vs hv;simp_all
    simp_all
  ·simp only[aX]at h;obtain⟨vs,hv,rfl⟩:=h;rw[aQ,AXw f hf h37 k t vs hv,aQ];simp
def FI (c:UInt8):Bool:=K6 c||(Fj c||([46,45,95]:B8).contains c)
def AGZ (c:UInt8):Oh N (AJ c)=some (FI c):=by unfold Oh FI;rw[UL,aa,UX,aa,YS c _ fO,aa];cases K6 c<;>cases Fj c<;>rfl
def Xi (c:UInt8):(Eh c=(FI c||c==126))/\(FI c=true->c≠37/\c≠58/\c≠126)/\(J5 c=true->FI c=true):=by have key:=Bl (f:=λn=>(Eh (UInt8.ofNat n)==(FI (UInt8.ofNat n)||UInt8.ofNat n==126))&&((!FI (UInt8.ofNat n))||(decide (UInt8.ofNat n≠37)&&decide (UInt8.ofNat n≠58)&&decide (UInt8.ofNat n≠126)))&&((!J5 (UInt8.ofNat n))||FI (UInt8.ofNat n))) (g:=λ_=>true) (by kernel_rfl) c;simp only[bP,aw,cf,eY,be,au]at key;grind
def I7 (b:UInt8):B8:=if FI b=true then [b]else OO b
theorem Pg (b:UInt8):(I7 b).length<=3/\1<=(I7 b).length:=by unfold I7;split<;>simp[OO]
def AXV:UInt8->B8:=ABm [37,55,69] 126
def Am1 (b:UInt8):(OO b).flatMap AXV=OO b:=by have key:=Bl (f:=λn=>decide (([37,U5 (n / 16),U5 (n % 16)]:B8).flatMap AXV=[37,U5 (n / 16),U5 (n % 16)])) (g:=λ_=>true) (by kernel_rfl) b;simp only[au]at key;exact key
theorem AcQ (b:UInt8):(if Eh b=true then [b]else OO b).flatMap AXV=I7 b:=by
 obtain⟨k1,k2,_⟩:=Xi b;unfold I7;rw[k1];cases hp:FI b
 ·by_cases h:b=126;·subst h;rfl
  ·rw[show(b==126)=false by grind,cV,aj fO,Am1]
 ·obtain⟨_,_,h3⟩:=k2 hp;rw[cO,an rfl];simp[AXV,ABm,h3]
def Apy (b:UInt8):(M3 [] b).flatMap AXV=I7 b:=by grind[AcQ,M3]
def guC (u:Bool×UInt8):B8:=if u.1=true then I7 u.2 else [u.2]
def XK (u:Bool×UInt8):Bool:=u.1||(FI u.2||u.2==58)
def Ayr{u:Bool×UInt8} (h:XK u=true):(nuC u).flatMap AXV=guC u:=by
 obtain⟨e,c⟩:=u;unfold nuC guC;cases e
 ·simp only[ap,aA];have hc:c≠126:=by rintro rfl;simp only[XK,bk]at h;exact absurd h fO
  simp[AXV,ABm,hc]
 ·simp only[az];exact AcQ c
def Ai2{us:List (Bool×UInt8)} (h:us.all XK=true):(us.flatMap nuC).flatMap AXV=us.flatMap guC:=by induction us with|nil=>rfl|cons u us ih=>rw[aQ,aw]at h;rw[aR,cY,Ayr h.1,ih h.2,aR]
def Sb (s:B8):B8×Int:=match unS s with|none=>([],2)|some us=>if us.all XK=true then(us.flatMap guC,0)else([],1)
def A1P (us:List (Bool×UInt8)):(us.all (okN [58])&&!(us.any λu=>!u.1&&u.2==126))=us.all XK:=by
 induction us with
 |nil=>rfl
 | cons u us ih=>
  rw[aQ,bN,aQ,<-ih];obtain⟨e,c⟩:=u;obtain⟨k1,k2,_⟩:=Xi c;have hu:(okN [58] (e,c)&&!(!e&&c==126))=XK (e,c):=by
   unfold okN XK;cases e;·simp only[bk,ba,bM];grind
   ·simp
  rw[<-hu];cases okN [58] (e,c)<;>cases (!e&&c==126)<;>cases us.all (okN [58])<;>cases (us.any λu=>!u.1&&u.2==126)<;>rfl
def Avz (s:B8) (hb:s.length<=16000) (hN:20000<=N): ∃v,Nc N s=some (v,(Sb s).2)/\((Sb s).2=0->v=(Sb s).1):=by
 unfold Nc;have hd:Ah N s=Vs N s []:=by unfold Ah;grind
 have hn:De N s [58]=VP [58] N s []:=by unfold De;grind
 have hun:Ff N s=unS s:=Aah fM;rw[Nf _ _ hN,aa,SI _ hN,aa,hd,hn,AAo N s [] fM,hun];dsimp only[AB];unfold Sb;cases hu:unS s with
 |none=>simp
 | some us=>
  simp only;rw[aj fO,AM8 [58] N s [] us fM (by grind),AUG,aa];have h126:s.contains 126=us.any λu=>!u.1&&u.2==126:=AHP 126 fO fO _ s us hu;have hk:=A1P us;rw[<-h126]at hk;have hlen:=Jo (N:=N) s [58];rw[hn,AM8 [58] N s [] us fM (by grind)]at hlen;cases h1:us.all (okN [58]);·rw[h1,eO]at hk;rw[<-hk];simp only[ap,aA];rw[aj fO,TI _ _ _ rfl fN,aa];simp
  ·rw[h1,bM]at hk;rw[h1]at hlen;simp only[az,bl]at hlen⊢;rw[an fO];cases h2:s.contains 126;·rw[h2]at hk;rw[<-hk];simp only[ba,ap,aA,az];rw[TI _ _ _ rfl fM,aa];exact⟨_,rfl,λ_=>Ai2 hk.symm⟩
   ·rw[h2]at hk;rw[<-hk];simp only[bo,ap,aA,az];rw[TI _ _ _ rfl fM,aa];simp
theorem ApU{p:UInt8->Bool}{x:UInt8}: ∀ {l:B8},x∈l.takeWhile p->p x=true
 |[],h=>by simp at h
 | c::l,h=>by
  rw[bg]at h;split at h
  ·rename_i hc;rcases aO.1 h with rfl|h;·omega
   ·exact ApU h
  grind
def Yg (c:UInt8):Bool:=FI c||c==37
def AYz: ∀(k:Nat) (t:B8) (us:List (Bool×UInt8)),Ff k t=some us->∀u,u∈us->u.1=true\/u.2≠37
 |0,_,_,h,_,_=>by cases h
 |k+1,[],us,h,u,hu=>by grind[Ff]
 | k+1,c::t,us,h,u,hu=>by
  rw[Ff]at h;split at h
  ·cases he:OI t with
   |none=>grind
   |some x=>
    rw[he]at h;simp only[aX]at h;obtain⟨vs,hv,rfl⟩:=h;rcases aO.1 hu with rfl|hu;·simp
    ·exact AYz k _ vs hv u hu
  ·rename_i hc;simp only[aX]at h;obtain⟨vs,hv,rfl⟩:=h;rcases aO.1 hu with rfl|hu;·grind
   ·exact AYz k t vs hv u hu
theorem A0h: ∀ {t:B8}{us:List (Bool×UInt8)},unS t=some us->(us=[]<->t=[])
 |[],us,h=>by have:unS []=some []:=rfl;grind
 | c::t,us,h=>by
  unfold unS at h;rw[Ff]at h;constructor
  ·rintro rfl;split at h;·cases he:OI t with|none=>grind|some x=>simp_all
   simp_all
  simp
theorem XX{p:B8} (hb:p.length<=16000) (hN:20000<=N):Ah N p=(match unS p with|some us=>(us.map (·.2),0)|none=>([],2)):=by unfold Ah;rw[aj fM,AAo N p [] fM,Aah fM];cases unS p<;>simp
def OZ (N:Nat) (p:B8):B8:=(Ah N p).1.flatMap I7
def jn (N:Nat):Bool->List B8->B8|_,[]=>[]|true,p::ps=>OZ N p++jn N false ps|false,p::ps=>58::(OZ N p++jn N false ps)
def XG (N:Nat) (p:B8):Bool:=(Ah N p).2==0
def ASR{p:B8}{u:List (Bool×UInt8)} (hb:p.length<=16000) (hN:20000<=N) (h58:p.contains 58=false) (hu:unS p=some u):XG N p=true/\p.all Yg=u.all XK/\(u.all XK=true->OZ N p=u.flatMap guC):=by
 have hlit:=AYz _ p u hu;have h58':=AHP 58 fO fO _ p u hu;rw[h58]at h58';have hno: ∀v,v∈u->v.1=true\/(v.2≠37/\v.2≠58):=λv hv=>by
  rcases hlit v hv with h|h;·grind
  ·have:=dX.1 h58'.symm v hv;cases hv1:v.1;·refine .inr ⟨h,λe=>?_⟩;rw[hv1,e]at this;exact this rfl
   ·exact .inl rfl
 refine⟨by grind[XG,XX],?_,λhok=>?_⟩;·rw[AXw Yg (λc hc=>by unfold Yg;rw[(Xi c).2.2 hc];rfl) fO _ p u hu];grind[XK,Yg]
 ·unfold OZ;rw[XX hb hN,hu];clear hu h58' hlit;induction u with
  |nil=>rfl
  |cons v u ih=>
   rw[aQ,aw]at hok;have ih':=ih (λw hw=>hno w (by grind)) hok.2;simp only[aH,aR]at ih'⊢;rw[ih'];congr 1;unfold guC;rcases hno v (by simp)with h|⟨h1,h2⟩;·grind
   ·cases hv1:v.1<;>simp_all[FI,XK,I7]
theorem AOJ (hN:20000<=N): ∀(n:Nat) (l:B8),l.length<=n->l.length<=16000->(unS l=none->(AV 58 l).all (XG N)=false)/\(∀us,unS l=some us->(AV 58 l).all (XG N)=true/\((AV 58 l).all λp=>p.all Yg)=us.all XK/\(us.all XK=true->jn N true (AV 58 l)=us.flatMap guC)):=by
 intro n;induction n with
 |zero=>
  intro l hl _;have:l=[]:=bC fM;subst this;refine⟨λh=>(by cases h),λus h=>?_⟩;have e:unS []=some []:=rfl;rw[e]at h;cases h;refine⟨?_,rfl,λ_=>?_⟩;·simp only[AV,aQ,dZ,dm];grind[XG,XX]
  ·simp only[AV,jn,bm,OZ];rw[XX fN hN];rfl
 | succ n ih=>
  intro l hl hb;cases hc:l.contains 58
  ·have hs:AV 58 l=[l]:=by grind[NF,Ui]
   rw[hs];refine⟨λh=>?_,λus h=>?_⟩;·simp only[aQ,dZ,dm];grind[XG,XX]
   ·obtain⟨r1,r2,r3⟩:=ASR hb hN hc h;refine⟨by simp[r1],by simpa using r2,λhk=>?_⟩;simp only[jn,bm];exact r3 hk
  ·have hlt:=PE hc;have hs:AV 58 l=(Ac 58 l).1::AV 58 (Ac 58 l).2.1:=by rw[NF 58 l,an (by rw[UR,hc])]
   have he:l=(Ac 58 l).1++58::(Ac 58 l).2.1:=by
    rw[Gf hc];have e:=bh (p:=(· !=(58:UInt8))) (l:=l);have hd:l.dropWhile (· !=(58:UInt8))=58::(l.dropWhile (· !=(58:UInt8))).drop 1:=by cases hq:l.dropWhile (· !=(58:UInt8))with|nil=>grind|cons y ys=>grind[List.head?_dropWhile_not]
    grind
   have hp:(Ac 58 l).1.contains 58=false:=by grind[Gf,ApU]
   have hp': ∀x,x∈(Ac 58 l).1->x≠58:=λx AX e=>by grind
   generalize (Ac 58 l).1=p at *;generalize (Ac 58 l).2.1=r at *;have hlen:=br List.length he;simp only[ag,ae]at hlen;have hun:unS l=(unS p).bind λu=>(unS r).map λv=>u++(false,58)::v:=by grind[unS,ADx,List.length_append,List.length_cons]
   obtain⟨i1,i2⟩:=ih r fM fM;rw[hs,aQ,aQ];refine⟨λh=>?_,λus h=>?_⟩
   ·rw[hun]at h;cases hu:unS p with
    |none=>
     have:XG N p=false:=by unfold XG;rw[XX fM hN,hu];rfl
     grind
    |some u=>simp_all
   ·rw[hun]at h;cases hu:unS p with
    |none=>grind
    |some u=>
     rw[hu]at h;simp only[aa,aX]at h;obtain⟨v,hv,rfl⟩:=h;obtain⟨j1,j2,j3⟩:=i2 v hv;obtain⟨r1,r2,r3⟩:=ASR fM hN hp hu;have h58:XK (false,58)=true:=rfl;refine⟨by grind,?_,λhk=>?_⟩;·simp_all
     ·rw[List.all_append,aQ,h58,bM,aw]at hk;rw[cY,aR,<-r3 hk.1,<-j3 hk.2];cases hsr:AV 58 r with|nil=>grind[absurd,ES]|cons q qs=>simp only[jn];rfl
def mB (c:UInt8):Bool:=Fj c||(!decide (AJ c<97)&&!decide (AJ c>122))
def AEE (k:Unit->Option Bool): ∀l:B8,Ir N k l=if l.all mB=true then k ()else some false|[]=>by grind[Ir]|c::l=>by rw[Ir];dsimp only[AB];rw[Wn,aa,AEE k l,aQ];unfold mB;cases Fj c<;>cases decide (AJ c<97)<;>cases decide (AJ c>122)<;>simp
def ACm (k:Unit->Option Bool): ∀l:B8,GV N k l=if l.all mB=true then k ()else some false|[]=>by grind[GV]|c::l=>by rw[GV];dsimp only[AB];rw[UX,aa,ACm k l,aQ];unfold mB;cases Fj c<;>cases decide (AJ c<97)<;>cases decide (AJ c>122)<;>simp
def AD5 (l:B8):Bool:=l.all mB&&!(l==[])
def Ao5 (l:B8) (hb:l.length<=1000000):Sj N l=some (AD5 l):=by unfold Sj AD5;rw[AB,Ap fM,AEE];cases l.all mB<;>simp
def Apo (l:B8) (hb:l.length<=1000000):Ph N l=some (AD5 l):=by unfold Ph AD5;rw[AB,Ap fM,ACm];cases l.all mB<;>simp
def AwR (l:B8) (c:UInt8) (hb:l.length<=1000000):strings_HasSuffix N l [c]=some (l.getLast?==some c):=by
 unfold strings_HasSuffix Ed;rcases dp l with rfl|⟨l,x,rfl⟩;·rfl
 ·rw[fu]at *;have hb':l.length<=1000000:=by grind
  rw[an (by grind),show wr .i64 (((l++[x]).length:Int)-(([c]:B8).length:Int))=((l.length:Nat):Int) by grind[Ak,List.length_append,List.length_cons,List.length_nil],BP fN,aa,aa,c7];simp
def Px:AF:=⟨[],[]⟩
def AQm (l:B8):Bool:=l==[]||l.getLast?==some 58
def Oy (s:B8):AF×Int:=if s.length>4096 then(Px,5)else if preB [100,105,100,58] s=false then(Px,60)else if(Ac 58 (s.drop 4)).2.2=false then(Px,6)else if AD5 (Ac 58 (s.drop 4)).1=false then(Px,100)else if((Sb (Ac 58 (s.drop 4)).2.1).2 !=0)=true then(Px,(Sb (Ac 58 (s.drop 4)).2.1).2)else if AQm (Sb (Ac 58 (s.drop 4)).2.1).1=true then(Px,3)else(⟨(Ac 58 (s.drop 4)).1,(Sb (Ac 58 (s.drop 4)).2.1).1⟩,0)
def AvW (u:Bool×UInt8):(guC u).length<=3:=by grind[Pg,guC]
def AaD: ∀(k:Nat) (t:B8) (us:List (Bool×UInt8)),Ff k t=some us->us.length<=t.length
 |0,_,_,h=>by cases h
 |k+1,[],us,h=>by grind[Ff]
 |k+1,c::t,us,h=>by
  rw[Ff]at h;split at h;·cases he:OI t with|none=>grind|some x=>rw[he]at h;simp only[aX]at h;obtain⟨vs,hv,rfl⟩:=h;have:=AaD k _ vs hv;grind
  ·simp only[aX]at h;obtain⟨vs,hv,rfl⟩:=h;have:=AaD k _ vs hv;grind
def UF{α:Type}{f:α->B8}{n:Nat} (h: ∀x,(f x).length<=n): ∀l:List α,(l.flatMap f).length<=n * l.length|[]=>by simp|x::l=>by have:=UF h l;have:=h x;rw[aR,ag,ae,Nat.mul_succ];omega
theorem AWL (s:B8):(Sb s).1.length<=3 * s.length:=by
 unfold Sb;cases hu:unS s with
 |none=>simp
 |some us=>
  simp only;split;·have h1:=UF AvW us;have h2:=AaD _ s us hu;grind
  ·simp
def AJk (s:B8) (hb:s.length<=1000000) (hN:20000<=N):IJ N s=some (Oy s):=by
 unfold IJ Oy;by_cases h1:s.length>4096;·rw[an (by grind),an h1];rfl
 rw[aj (by grind),aj h1,AHW,aa];cases hp:preB [100,105,100,58] s;·rfl
 have hl:=FZ 58 (s.drop 4);rw[aG]at hl;simp only[az,ae,aq,bJ,Nat.reduceAdd];rw[aj (by decide: ¬(true=false)),P6 58 _ (by grind),aa];cases hc:(Ac 58 (s.drop 4)).2.2;·rfl
 simp only[az];rw[aj (by decide: ¬(true=false)),Ao5 _ fM,aa];cases hm:AD5 (Ac 58 (s.drop 4)).1;·rfl
 simp only[az];have hcl:=AWL (Ac 58 (s.drop 4)).2.1;obtain⟨v,e1,e2⟩:=Avz (N:=N) (Ac 58 (s.drop 4)).2.1 fM hN;rw[aj (by decide: ¬(true=false)),e1,aa];by_cases h5:((Sb (Ac 58 (s.drop 4)).2.1).2 !=0)=true;·rw[an h5,an h5];rfl
 rw[aj h5,aj h5];have hv:=e2 (by grind);subst hv;dsimp only[AB];rw[AwR _ _ fM,aa];unfold AQm;cases ((Sb (Ac 58 (s.drop 4)).2.1).1==[])<;>cases ((Sb (Ac 58 (s.drop 4)).2.1).1.getLast?==some 58)<;>rfl
def AGU{l:B8} (hb:l.length<=1000000) (k:B8->Option B8): ∀(t pre out:B8),l=pre++t->out.length<=3 * pre.length->EU N l k t (pre.length:Int) out=k (out++t.flatMap I7)
 |[],pre,out,h,_=>by grind[EU]
 |c::t,pre,out,h,ho=>by
  have hl:=br List.length h;simp only[ag,ae]at hl;have hsub:sub l (pre.length:Int) ((pre.length:Int)+1)=some [c]:=by rw[show(pre.length:Int)+1=((pre.length+1:Nat):Int) by omega,Av l _ _ fM fM,h,c7];simp
  have hel:=Pg c;have nxt: ∀x:B8,x=I7 c->EU N l k t ((pre.length:Int)+1) (out++x)=k (out++(c::t).flatMap I7):=λx AX=>by have:=AGU hb k t (pre++[c]) (out++x) (by grind) (by grind);grind
  rw[EU];dsimp only[AB];rw[AGZ,aa,hsub,aa,WA,aa];cases hp:FI c;·rw[aj fO,Ap (by grind[OO])];grind[I7]
  ·rw[an rfl,Ap (by grind)];grind[I7]
def AU7 (l:B8) (hb:l.length<=1000000):LV N l=some (l.flatMap I7):=by unfold LV;rw[AB,Ap fM];have:=AGU (N:=N) hb (λj1=>some j1) l [] [] rfl fN;grind
def rd1 (hN:20000<=N) (k:Unit->Option (AF×Int)): ∀ps:List B8,Eo N k ps=if ps.all (XG N)=true then k ()else some (Px,2)
 |[]=>by grind[Eo]
 |p::ps=>by
  rw[Eo,Py _ hN,aa,rd1 hN k ps,aQ];unfold XG;cases h:((Ah N p).2==0);·rw[an (by grind)];rfl
  simp_all
theorem rd3 (k:Unit->Option (AF×Int)): ∀l:B8,Em N k l=if l.all Yg=true then k ()else some (Px,1)|[]=>by grind[Em]|c::l=>by rw[Em];dsimp only[AB];rw[AGZ,aa,rd3 k l,aQ,bne,TU];unfold Yg;have e:(c==37)=decide (c=37):=rfl;rw[e];cases FI c<;>cases decide (c=37)<;>simp[Px]
def Aqy (p:B8):(OZ N p).length<=3 * p.length:=by have h1:=UF (λx=>(Pg x).1) (Ah N p).1;grind[KO,OZ]
def rd2 (hN:20000<=N) (k:B8->Option (AF×Int)): ∀(ps:List B8) (i:Int) (acc:B8),0<=i->(∀p,p∈ps->p.length<=20000)->acc.length+60001 * ps.length<=1000000000->DK N k ps i acc=if(ps.all λp=>p.all Yg)=true then k (acc++jn N (decide (i=0)) ps)else some (Px,1)
 |[],i,acc,_,_,_=>by rw[DK];cases decide (i=0)<;>simp[jn]
 |p::ps,i,acc,hi,hp,ha=>by
  have hpl:=hp p fN;have hpt:=Aqy (N:=N) p;simp only[ae,Nat.mul_succ]at ha;have ih:=λacc' h'=>rd2 hN k ps (i+1) acc' fM (λq hq=>hp q (by grind)) h';have hd1:decide (i+1=0)=false:=aF fM;rw[hd1]at ih;rw[DK];dsimp only[AB];rw[Ap fM,rd3,Py _ hN,aa,aQ];cases h1:p.all Yg;·rfl
  rw[an rfl,bM];have hdl:=KO (N:=N) p;rw[AU7 _ fM,aa];change (if decide (i>0)=true then grd _ (grd (AL ((acc++[58]).length+(OZ N p).length)) (DK N k ps (i+1) (acc++[58]++OZ N p)))else grd (AL (acc.length+(OZ N p).length)) (DK N k ps (i+1) (acc++OZ N p)))=_;by_cases h0:i=0;·rw[aj (by grind),aC h0,Ap fM,ih _ (by grind)];grind[jn]
  ·rw[an (by grind),aF h0,Ap (by grind),Ap (by grind),ih _ (by grind)];grind[jn]
def Ann (b:UInt8):(I7 b).getLast?≠some 58:=by have key:=Bl (f:=λn=>decide ((I7 (UInt8.ofNat n)).getLast?≠some 58)) (g:=λ_=>true) (by kernel_rfl) b;simp_all
def AGs (p:B8):(OZ N p).getLast?≠some 58:=by
 unfold OZ;generalize (Ah N p).1=d;rcases dp d with rfl|⟨d,x,rfl⟩;·simp
 ·rw[fu];have h1:=(Pg x).2;rw[cY,List.flatMap_singleton,cm];cases h:(I7 x).getLast? with|none=>rw[List.getLast?_eq_none_iff]at h;rw[h]at h1;simp at h1|some y=>simp only[da];rw[<-h];exact Ann x
def AbZ: ∀(ps:List B8) (f:Bool) (hne:ps≠ []),AQm (jn N f ps)=(OZ N (ps.getLast hne)==[])
 |[],_,h=>absurd rfl h
 |[p],true,_=>by have:=AGs (N:=N) p;simp_all[jn,AQm,OZ]
 |[p],false,_=>by have:=AGs (N:=N) p;simp only[jn,bm,List.getLast_singleton,AQm];grind
 |p::q::ps,f,h=>by
  have ih:=AbZ (q::ps) false fN;rw[List.getLast_cons fN,<-ih];obtain⟨z,zs,hz⟩: ∃z zs,jn N false (q::ps)=z::zs:=⟨58,OZ N q++jn N false ps,rfl⟩;cases f;·rw[show jn N false (p::q::ps)=58::(OZ N p++jn N false (q::ps))from rfl,hz];unfold AQm;grind
  ·rw[show jn N true (p::q::ps)=OZ N p++jn N false (q::ps)from rfl,hz];unfold AQm;grind
def AYb (c:UInt8): ∀(n:Nat) (l:B8),l.length<=n->((AV c l).map List.length).sum+(AV c l).length=l.length+1:=by intro n;induction n with|zero=>intro l hl;have:l=[]:=bC fM;subst this;rfl|succ n ih=>intro l hl;cases l with|nil=>rfl|cons x t=>grind[AV,absurd]
def AFq{l:List B8} (hne:l≠ []) (hb:l.length<=1000000):idx l (wr .i64 ((l.length:Int)-1))=some (l.getLast hne):=by have:0<l.length:=bS.2 hne;rw[show wr .i64 ((l.length:Int)-1)=((l.length-1:Nat):Int) by rw[Ak fM];omega,D7,<-dF,cd hne]
def AWR{p:B8} (hb:p.length<=16000) (hN:20000<=N) (hk:XG N p=true):(OZ N p==[])=(p==[]):=by
 unfold XG at hk;rw[XX hb hN]at hk;cases hu:unS p with
 |none=>grind
 | some u=>
  have hn:=A0h hu;unfold OZ;rw[XX hb hN,hu];cases u with
  |nil=>simp_all
  |cons v u=>
   have hp:p≠ []:=λe=>by grind
   have h1:=(Pg v.2).2;cases hq:I7 v.2 with|nil=>grind|cons y ys=>simp_all
def AKt (s:B8) (hb:s.length<=1000000) (hN:20000<=N):Cc N s=some (Oy s):=by
 unfold Cc Oy;by_cases h1:s.length>4096;·rw[an (by grind),an h1];rfl
 rw[aj (by grind),aj h1,WX,aa];cases hp:preB [100,105,100,58] s;·rfl
 have h4:=RP hp;simp only[ae,aq]at h4;have hl:=FZ 58 (s.drop 4);have hdl:(s.drop 4).length<=1000000:=by grind
 rw[aG]at hl;simp only[az];rw[aj (by decide: ¬(true=false)),show sub s 4 (s.length:Int)=some (s.drop 4)from BP (n:=4) fM,aa,Alx 58 _ hdl,aa,WB,UR];cases hc:(s.drop 4).contains 58;·rfl
 obtain⟨s1,s2⟩:=V5 hc hdl;simp only[bo,ap,aA];rw[aj (by decide: ¬(true=false)),s1,aa,Apo _ fM,aa];cases hm:AD5 (Ac 58 (s.drop 4)).1;·rfl
 simp only[az];rw[aj (by decide: ¬(true=false)),s2,aa,show(58:Int)=AJ 58 from rfl,QG _ 58 fM,aa];generalize (Ac 58 (s.drop 4)).1=m at *;have hd:(Ac 58 (s.drop 4)).2.1.length<=4096:=fM;generalize (Ac 58 (s.drop 4)).2.1=d at *;have hsl:=H5 58 d;have hsp:=IY 58 d;have hne:=ES 58 d;obtain⟨r1,r2⟩:=AOJ (N:=N) hN d.length d (av _) fM;dsimp only[AB];rw[Ap fM,rd1 hN];unfold Sb;cases hu:unS d with
 |none=>grind
 |some us=>
  obtain⟨q1,q2,q3⟩:=r2 us hu;simp only;rw[q1,an rfl,Ap fM,rd2 hN _ _ 0 [] fM (λp h=>by grind) (by grind),q2];cases hk:us.all XK;·rfl
  simp only[az];rw[aj fO,bl];simp only[fy];rw[q3 hk,AFq hne fM,aa];have hlast:XG N ((AV 58 d).getLast hne)=true:=aK.1 q1 _ (fc hne);have hll:((AV 58 d).getLast hne).length<=16000:=by grind
  have he:=AbZ (N:=N) (AV 58 d) true hne;rw[q3 hk,AWR hll hN hlast]at he;rw[he];cases ((AV 58 d).getLast hne==[])<;>rfl
def KN (d:AF):B8:=(([100,105,100,58]++d.i)++[58])++d.u
def Y0 (d:AF) (h:d.i.length<=1000000/\d.u.length<=1000000):Ct N d=some (KN d):=by grind[Ct,KN,Ap]
def Yw (d:AF) (h:d.i.length<=1000000/\d.u.length<=1000000):CV N d=some (KN d):=by grind[CV,KN,Ap]
def AC7 (s:B8):(Oy s).1.i.length<=4096/\(Oy s).1.u.length<=12288:=by grind[FZ,AWL,Ac,List.length_drop,Oy,Px]
def Lu:B8:=[119,101,98]
def hp0:Cl:=⟨[],0⟩
def DJ (N:Nat) (d:AF):Cl×Int:=if(d.i==Lu)=false then(hp0,100)else if((Oy (KN d)).2 !=0)=true then(hp0,(Oy (KN d)).2)else hpS (Ah N (Ac 58 d.u).1).1
theorem ZW (i:B8):preB [100,105,100,58] (KN ⟨Lu,i⟩)=true/\Ac 58 ((KN ⟨Lu,i⟩).drop 4)=(Lu,i,true)/\(KN ⟨Lu,i⟩).length=i.length+8:=by have h4:(KN ⟨Lu,i⟩).drop 4=Lu++58::i:=rfl;refine⟨rfl,?_,by grind[KN,Lu]⟩;rw[h4,Gf fN];rfl
def ArR{i:B8} (h:(Oy (KN ⟨Lu,i⟩)).2=0):(Sb i).2=0/\i.length<=4088:=by
 obtain⟨h1,h2,h3⟩:=ZW i;unfold Oy at h;rw[h1,h2]at h;split at h;·cases h
 rename_i hl;rw[h3]at hl;rw[aj fO]at h;simp only[dP,aA]at h;rw[aj fO]at h;grind
def Ays{i:B8} (h:(Sb i).2=0): ∃us,unS i=some us/\us.all XK=true:=by
 unfold Sb at h;cases hu:unS i with
 |none=>grind
 |some us=>
  rw[hu]at h;simp only at h;split at h;·rename_i hk;exact⟨us,rfl,hk⟩
  ·cases h
def ZZ (c:UInt8) (l:B8):(AV c l)[0]?=some (Ac c l).1:=by rw[NF];split<;>rfl
def Ade{i:B8} (h:(Sb i).2=0) (hb:i.length<=16000) (hN:20000<=N):((Ah N (Ac 58 i).1).2 !=0)=false:=by obtain⟨us,hu,_⟩:=Ays h;obtain⟨_,r2⟩:=AOJ (N:=N) hN i.length i (av _) hb;obtain⟨q1,_⟩:=r2 us hu;have hm:(Ac 58 i).1∈AV 58 i:=ef (ZZ 58 i);grind[XG,bne]
def AFp (d:AF) (hm:d.i.length<=4096) (hi:d.u.length<=16000) (hN:20000<=N):Iw N d=some (DJ N d):=by
 have hc:=FZ 58 d.u;have hdl:=KO (N:=N) (Ac 58 d.u).1;have hfl:(KN d).length<=100000:=by unfold KN;simp;omega
 unfold Iw DJ;change (if(d.i==Lu)=true then _ else _)=_;cases hw:(d.i==Lu);·rfl
 rw[an rfl,aj (by decide: ¬(true=false)),Y0 d fM,aa,AJk _ fM hN,aa];by_cases h:((Oy (KN d)).2 !=0)=true;·rw[an h,an h];rfl
 have hd:d=⟨Lu,d.u⟩:=by have:=be.1 hw;cases d;simp only at this;rw[this]
 have h0:(Oy (KN ⟨Lu,d.u⟩)).2=0:=by rw[<-hd];simpa using h
 obtain⟨k1,k2⟩:=ArR h0;rw[aj h,aj h,P6 58 _ fM,aa,SI _ hN,aa,Ade k1 fM hN,aj fO,AkJ _ fM fM,aa]
def AFr (d:AF) (hm:d.i.length<=4096) (hi:d.u.length<=16000) (hN:20000<=N):Oc N d=some (if(d.i==Lu)=false then([],hp0,100)else if((Oy (KN d)).2 !=0)=true then([],hp0,(Oy (KN d)).2)else(AV 58 d.u,(DJ N d).1,(DJ N d).2)):=by
 have hc:=FZ 58 d.u;have hdl:=KO (N:=N) (Ac 58 d.u).1;have hfl:(KN d).length<=100000:=by unfold KN;simp;omega
 unfold Oc;change (if(d.i==Lu)=true then _ else _)=_;cases hw:(d.i==Lu);·rfl
 rw[an rfl,aj (by decide: ¬(true=false)),Yw d fM,aa,AKt _ fM hN,aa];by_cases h:((Oy (KN d)).2 !=0)=true;·rw[an h,an h];rfl
 rw[aj h,aj h,show(58:Int)=AJ 58 from rfl,QG _ 58 fM,aa,show(0:Int)=((0:Nat):Int)from rfl,D7,ZZ,aa,Py _ hN,aa,AmA _ fM,aa];unfold DJ;rw[aj (by rw[hw];decide),aj h]
def Aef (d:AF) (hm:d.i.length<=4096) (hi:d.u.length<=16000) (hN:20000<=N):LM N d=some (DJ N d):=by
 unfold LM;rw[AFr d hm hi hN,aa];unfold DJ;split;·rfl
 split;·rfl
 ·rfl
def upT (N:Nat) (x:B8):B8:=47::(Ah N x).1.flatMap (M3 [])
def upB (N:Nat) (x:B8):Bool:=(Ah N x).1==[]||((Ah N x).1==[46]||(Ah N x).1==[46,46])
def ASC{s:B8} (hN:20000<=N) (h:((Ah N s).2 !=0)=true):(Ah N s).1=[]:=by
 unfold Ah at *;split;·rfl
 ·rename_i hs;rw[aj hs,AAo N s [] fM]at h;grind[AAo,Ff,absurd]
def A1E (e:Int) (x:B8) (hb:x.length<=100000) (hN:20000<=N):KL N ⟨e⟩ x=some (upT N x,⟨if upB N x=true then 110 else e⟩):=by
 have hd:=KO (N:=N) x;have he:=UU [] (Ah N x).1;have hg: ∀v:Option (B8×BY),grd (AL (([47]:B8).length+((Ah N x).1.flatMap (M3 [])).length)) v=v:=λv=>Ap (by simp only[ae,aq];omega);unfold KL upB upT;rw[SI _ hN,aa];dsimp only[AB];rw[YQ _ _ fM];simp only[aa,hg];by_cases h:((Ah N x).2 !=0)=true;·rw[an h,ASC hN h];rfl
 ·rw[aj h];cases ((Ah N x).1==[])<;>cases ((Ah N x).1==[46])<;>cases ((Ah N x).1==[46,46])<;>rfl
end
end Go.VM
