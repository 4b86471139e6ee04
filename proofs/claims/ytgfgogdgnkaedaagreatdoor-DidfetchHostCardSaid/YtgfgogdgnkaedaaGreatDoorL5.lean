import Derived.Test.YtgfgogdgnkaedaaGreatDoorL4
set_option linter.unusedVariables false
set_option linter.unusedSimpArgs false
namespace Go.VM
section
variable{N:Nat}
def hxT (l:List UInt8):List UInt8:=l.takeWhile Kv
def hxR (l:List UInt8):List UInt8:=l.dropWhile Kv
def ACc (l:List UInt8):Int:=if((VK 4611686018427387904 (hxT l)).2 !=0)=true then 4611686018427387904 else(VK 4611686018427387904 (hxT l)).1
def K9 (l:List UInt8):Int×Nat×Int:=match hxR l with |[]=>(0,0,191)|x::t=>if(hxT l==[]||!(x==59||x==13))=true then(0,0,190)else if Ih (Em (x::t))=0 then(ACc l,(hxT l).length+(GQ (x::t)).length+2,0)else(0,0,Ih (Em (x::t)))
theorem AoU (l:List UInt8):hxT l++hxR l=l:=bm
theorem AGJ (l:List UInt8):(hxT l).length+(hxR l).length=l.length:=by have:=bl List.length (AoU l);rwa[ah]at this
theorem Wu (l:List UInt8):l.drop (hxT l).length=hxR l:=Kc Kv l
theorem AhW{c:UInt8} (h:Kv c=true):notE c=true:=by
 have h1:c≠13:=fun e=>by subst e;cases h
 have h2:c≠10:=fun e=>by subst e;cases h
 unfold notE;simp[h1,h2]
theorem Akx (l:List UInt8): ∀c,c∈hxT l→Kv c=true:=fun c hc=>by
 induction l with
 |nil=>cases hc
 | cons x l ih=>
  unfold hxT at hc ih;rw[aZ]at hc;split at hc
  ·rcases aO.1 hc with rfl|hc;·assumption
   ·exact ih hc
  ·cases hc
theorem AQp: ∀(h t:List UInt8),(∀c,c∈h→notE c=true)→GQ (h++t)=h++GQ t∧Em (h++t)=Em t |[],t,_=>⟨rfl,rfl⟩| c::h,t,hh=>by obtain⟨e1,e2⟩:=AQp h t fun d hd=>hh d (.tail _ hd);have hc:=hh c (.head _);unfold GQ Em at *;rw[bA,aZ,bS,ap hc,ap hc,e1,e2];exact⟨rfl,rfl⟩
theorem AeE (l:List UInt8):GQ l=hxT l++GQ (hxR l)∧Em l=Em (hxR l):=by have:=AQp (hxT l) (hxR l) fun c hc=>AhW (Akx l c hc);rwa[AoU]at this
theorem ACf{l:List UInt8} (s:Int) (hb:l.length≤1000000) (k2:Int→Option (Int×BodyChunks)): ∀(k i:Nat),i≤l.length→l.length-i<k→Cx N ⟨l,s⟩ k2 k (i:Int)=k2 (((i+(hxT (l.drop i)).length:Nat):Int))
 |0,i,_,h=>by omega
 | k+1,i,hi,hk=>by
  rw[Cx];simp only[AB];by_cases he:i<l.length
  ·have hget:l[i]?=some l[i]:=aK he;rw[ap (aF ff),Ei,hget,aa,Y3,aa,bG he];unfold hxT;rw[aZ];cases hh:Kv l[i];·rfl
   ·have w:wr .i64 ((i:Int)+1)=((i+1:Nat):Int):=Aq ff;rw[ap rfl,w,ACf s hb k2 k (i+1) ff ff,ap rfl,ag];unfold hxT;congr 2;omega
  ·rw[aj (by simp only[au];omega),bC ff];rfl
theorem AC7{a:List UInt8} (hb:a.length≤1000000) (k2:Int→Option (Int×Int×Int)): ∀(k i:Nat),i≤a.length→a.length-i<k→Ni N a k2 k (i:Int)=k2 (((i+(hxT (a.drop i)).length:Nat):Int))
 |0,i,_,h=>by omega
 | k+1,i,hi,hk=>by
  rw[Ni];simp only[AB];by_cases he:i<a.length
  ·have hget:a[i]?=some a[i]:=aK he;rw[ap (aF ff),Ei,hget,aa,Yu,aa,bG he];unfold hxT;rw[aZ];cases hh:Kv a[i];·rfl
   ·have w:wr .i64 ((i:Int)+1)=((i+1:Nat):Int):=Aq ff;rw[ap rfl,w,AC7 hb k2 k (i+1) ff ff,ap rfl,ag];unfold hxT;congr 2;omega
  ·rw[aj (by simp only[au];omega),bC ff];rfl
theorem AWC{l:List UInt8}{x:UInt8}{t:List UInt8} (h:hxR l=x::t):l[(hxT l).length]?=some x:=by have:=Wu l;rw[h]at this;have h2:=bl (·[0]?) this;simpa using h2
theorem AX9{l:List UInt8} (s:Int) (hb:l.length≤1000000) (hN:1000010≤N): ∃b,IZ N ⟨l,s⟩=some ((K9 l).2.2,b)∧((K9 l).2.2=0→b=⟨l.drop (K9 l).2.1,(K9 l).1⟩):=by
 unfold IZ;simp only[AB];have hl:=AGJ l;have hlp:=ACf (N:=N) (l:=l) s hb;rw[show(0:Int)=((0:Nat):Int)from rfl,hlp _ N 0 ff ff,aJ,bD];have h1:=A8 l 0 (hxT l).length ff ff;rw[aJ,be]at h1;have h2:l.take (hxT l).length=hxT l:=Ho Kv l;rw[h2]at h1;simp only[show((0:Nat):Int)=0 from rfl]at *;rw[h1,aa];unfold K9;cases hr:hxR l with
 | nil=>rw[hr,an]at hl;rw[ap (by rw[a8];omega)];exact⟨_,rfl,fun h=>by cases h⟩
 | cons x t=>
  rw[hr,ag]at hl;have hx:=AWC hr;rw[aj (by rw[a8];omega)];have hz:((((hxT l).length:Nat):Int)==0)=(hxT l==[]):=by cases hxT l with |nil=>rfl|cons y u=>simp;omega
  rw[hz];have hib:strings_IndexByte N ([59,13]:List UInt8) (AJ x)=some (Go.Lib.indexByte [59,13] x):=Ma _ _;have hlt:decide (Go.Lib.indexByte [59,13] x<0)=!(x==59||x==13):=by
   have:=KV x [59,13];have e:([59,13]:List UInt8).contains x=(x==59||x==13):=by rw[bu,bu,ez,dK]
   rw[e]at this;rw[←this];by_cases h0:Go.Lib.indexByte [59,13] x<0;·rw[aF h0,aN ff];rfl
   ·rw[aN h0,aF ff];rfl
  have hline:=AeE l;rw[hr]at hline;have hx':idx l (((hxT l).length:Nat):Int)=some x:=by rw[Ei];exact hx
  have hM:NZ N (hxT l) 4611686018427387904=some (VK 4611686018427387904 (hxT l)):=AeJ (m:=4611686018427387904) ff _ ff;simp only[hx',aa,hib,hlt,APb (N:=N) (l:=l) s hb ff,hM];cases h0:hxT l==[]
  ·cases h5:(x==59||x==13);·exact⟨_,rfl,fun h=>by cases h⟩
   ·simp only[bb,bL,al,aC];rw[hline.2];by_cases hE:Ih (Em (x::t))=0
    ·rw[ap hE,aj (by rw[hE];decide)];unfold ACc;have hd:QA (Em (x::t))=l.drop ((hxT l).length+(GQ (x::t)).length+2):=by unfold QA;rw[ap hE,←aT,←aT,Wu,hr,U2]
     rw[hd];cases ((VK 4611686018427387904 (hxT l)).2 !=0);·exact⟨_,rfl,fun _=>rfl⟩
     ·exact⟨_,rfl,fun _=>rfl⟩
    ·rw[aj hE,ap (by simpa using hE)];exact⟨_,rfl,fun h=>absurd h hE⟩
  ·exact⟨_,rfl,fun h=>by cases h⟩
theorem Ah0{a:List UInt8}{p:Nat} (hb:a.length≤1000000) (hp:p≤a.length) (hN:1000010≤N):UQ N a (p:Int)=some (if(K9 (a.drop p)).2.2=0 then((K9 (a.drop p)).1,((p+(K9 (a.drop p)).2.1:Nat):Int),0)else(0,0,(K9 (a.drop p)).2.2)):=by
 unfold UQ;simp only[AB];have hl:=AGJ (a.drop p);have hal:(a.drop p).length=a.length-p:=aM;rw[AC7 hb _ N p hp ff];unfold K9;have hdd: ∀i,a.drop (p+i)=(a.drop p).drop i:=fun i=>by rw[aT]
 have h1:=A8 a p (p+(hxT (a.drop p)).length) ff ff;rw[show p+(hxT (a.drop p)).length-p=(hxT (a.drop p)).length by omega,show(a.drop p).take (hxT (a.drop p)).length=hxT (a.drop p)from Ho Kv (a.drop p)]at h1;cases hr:hxR (a.drop p)with
 | nil=>rw[hr,an]at hl;rw[ap (by rw[a8];omega)];rfl
 | cons x t=>
  rw[hr,ag]at hl;have hx:=AWC hr;have hx':idx a (((p+(hxT (a.drop p)).length:Nat):Int))=some x:=by rw[Ei,←bN];exact hx
  rw[aj (by rw[a8];omega)];have hz:((((p+(hxT (a.drop p)).length:Nat):Int))==(p:Int))=(hxT (a.drop p)==[]):=by cases hxT (a.drop p)with |nil=>simp|cons y u=>simp;omega
  have b59:(AJ x !=59)=(x !=59):=bnb x 59;have b13:(AJ x !=13)=(x !=13):=bnb x 13;have hline:Na N a (((p+(hxT (a.drop p)).length:Nat):Int))=some (if Ih (Em (x::t))=0 then(GQ (x::t),((p+(hxT (a.drop p)).length+(GQ (x::t)).length+2:Nat):Int),0)else([],0,Ih (Em (x::t)))):=by rw[Y4 hb ff,hdd,Wu,hr]
  have hM:S9 N (hxT (a.drop p)) 4611686018427387904=some (VK 4611686018427387904 (hxT (a.drop p))):=AiH (m:=4611686018427387904) ff ff _ ff;rw[hz];simp only[hx',aa,b59,b13,hline,hM];have h1':sub a (p:Int) (((p+(hxT (a.drop p)).length:Nat):Int))=some (hxT (a.drop p)):=h1;unfold ACc;cases h0:hxT (a.drop p)==[]
  ·cases h5:x==59
   ·cases h6:x==13;·simp[bne,h5,h6]
    ·by_cases hE:Ih (Em (x::t))=0;·simp only[bne,h5,h6,hE,h1',hM,aB,bL,bI,bb,fd,al,aC,aa];(generalize VK 4611686018427387904 (hxT (a.drop p))=P;by_cases hP:P.2=0<;>simp[hP]<;>omega)
     ·have:(Ih (Em (x::t))==0)=false:=by simpa using hE
      simp[bne,h5,h6,hE,this]
   ·by_cases hE:Ih (Em (x::t))=0;·simp only[bne,h5,hE,h1',hM,aB,bL,bI,bb,dk,al,aC,aa];(generalize VK 4611686018427387904 (hxT (a.drop p))=P;by_cases hP:P.2=0<;>simp[hP]<;>omega)
    ·have:(Ih (Em (x::t))==0)=false:=by simpa using hE
     simp[bne,h5,hE,this]
  ·rfl
end
end Go.VM
namespace Go.VM
section
variable{N:Nat}
theorem AAR{l:List UInt8} (h:Ih l=0):2≤l.length:=AOR (AgB h)
theorem AYR{a:List UInt8}{p:Nat} (hp:p≤a.length) (h:Ih (Em (a.drop p))=0):QA (Em (a.drop p))=a.drop (p+(GQ (a.drop p)).length+2)∧p+(GQ (a.drop p)).length+2≤a.length:=by have h1:=AAR h;have h2:=AAh (a.drop p);rw[aM]at h2;refine⟨?_,ff⟩;unfold QA;rw[ap h,←U2,aT,aT,cu]
theorem Z8{a:List UInt8} (hb:a.length≤1000000) (hN:1000010≤N) (buf:List UInt8) (ad:Bool) (b0:BodyChunks) (s:Int): ∀(k p:Nat),p≤a.length→a.length-p<k→∃e:Int,(e=0∨e=191∨e=190)∧EM N (b0,ad,buf) k ⟨a.drop p,s⟩=some (if e=0 then(buf,0)else([],e))∧Kr N a k (p:Int)=some e
 |0,p,_,h=>absurd h (b9 _)
 | k+1,p,hp,hk=>by
  rw[EM,Kr,APb s (by rw[aM];omega) ff,aa,Y4 hb hp,aa];simp only[AB];have ho:=AF4 (Em (a.drop p));by_cases hE:Ih (Em (a.drop p))=0
  ·obtain⟨n1,n2⟩:=AYR hp hE;have z:((0:Int) !=0)=false:=rfl;simp only[n1,hE,aB,z,al,aC];by_cases ht:(GQ (a.drop p)==[])=true;·simp only[ht,aB];exact⟨0,.inl rfl,rfl,rfl⟩
   ·simp only[ht,aC];exact Z8 hb hN buf ad b0 s k (p+(GQ (a.drop p)).length+2) n2 ff
  ·rw[aj hE,ap (by simpa using hE),ap (by simpa using hE)];refine⟨_,ho,?_,rfl⟩;rw[aj hE]
theorem Acy (m:Nat) (l:List UInt8):0≤(VK m l).1∧(VK m l).1≤m:=by
 unfold VK;split;·exact⟨bg 0,ff⟩
 ·split
  ·split;·exact⟨by simp only;omega,by simp only;omega⟩
   ·exact⟨bg 0,ff⟩
  ·exact⟨bg 0,ff⟩
theorem AaS (l:List UInt8):0≤ACc l∧ACc l≤4611686018427387904:=by unfold ACc;have:=Acy 4611686018427387904 (hxT l);split<;>omega
theorem Ab0 (l:List UInt8):0≤(K9 l).1∧(K9 l).1≤4611686018427387904∧((K9 l).2.2=0→(K9 l).2.1≤l.length∧2≤(K9 l).2.1)∧((K9 l).2.2=0∨(K9 l).2.2=191∨(K9 l).2.2=190):=by
 have hl:=AGJ l;unfold K9;cases hr:hxR l with
 |nil=>exact⟨bg 0,(by show(0:Int)≤4611686018427387904;decide),nofun,.inr (.inl rfl)⟩
 | cons x t=>
  rw[hr]at hl;simp only;split;·exact⟨bg 0,(by show(0:Int)≤4611686018427387904;decide),nofun,.inr (.inr rfl)⟩
  ·split;·rename_i hE;have h2:=AAR hE;have h3:=AAh (x::t);have h4:=AaS l;exact⟨h4.1,h4.2,fun _=>by simp only;omega,.inl rfl⟩
   ·rename_i hE;exact⟨bg 0,(by show(0:Int)≤4611686018427387904;decide),fun h=>absurd h hE,AF4 _⟩
theorem Aey{l:List UInt8} (h:Ih l=0):GQ l=[]∧Em l=l:=by obtain⟨t,rfl⟩:=Od (AgB h);exact⟨rfl,rfl⟩
theorem Aig{l:List UInt8} (h:GQ l=[]):Em l=l:=by have:=AdX l;rwa[h]at this
theorem Zz {a:List UInt8} (hb:a.length≤1000000) (hN:1000010≤N){lim:Int} (hlim:0≤lim): ∀(k p:Nat) (s:Int) (ad:Bool) (buf:List UInt8),p≤a.length→a.length-p<k→buf.length+(a.length-p)≤1000000→∃r,FJ N lim (fun j1=>EM N j1 N j1.1) k (a.drop p) s ad buf=some r∧Ki N a lim k buf (p:Int)=some r∧r.1.length≤buf.length+(a.length-p)∧(r.2=0∨r.2=142∨r.2=191∨r.2=190)∧(r.2≠0→r.1=[])
 |0,p,s,ad,buf,_,h,_=>absurd h (b9 _)
 | k + 1,p,s,ad,buf,hp,hk,hbuf=>by
  have hal:(a.drop p).length=a.length-p:=aM;obtain⟨b,hb1,hb2⟩:=AX9 (N:=N) (l:=a.drop p) s ff hN;obtain⟨r1,r2,r3,r4⟩:=Ab0 (a.drop p);rw[FJ,Ki,hb1,aa,Ah0 hb hp hN,aa];simp only[AB];by_cases h0:(K9 (a.drop p)).2.2=0
  ·obtain ⟨c1,c2⟩:=r3 h0;have hb3:=hb2 h0;subst hb3;have z:((0:Int) !=0)=false:=rfl;have zl:decide (lim<0)=false:=aN ff;simp only[h0,aB,z,zl,al,aC];generalize hc:(K9 (a.drop p)).2.1=c at *;generalize hz:(K9 (a.drop p)).1=z at *;have hL:Ii N ⟨ad,buf⟩=some ((buf.length:Int),⟨ad,buf⟩):=rfl;rw[hL,aa];by_cases hov:decide (z>wr .u64 (wr .i64 (lim-(buf.length:Int))))=true;·simp only[hov,aB];exact⟨_,rfl,rfl,aH _,.inr (.inl rfl),fun _=>rfl⟩
   ·simp only[hov,aC];by_cases hz0:(z==0)=true
    ·simp only[hz0,aB,aT];obtain⟨e,e1,e2,e3⟩:=Z8 hb hN buf ad ⟨a.drop (p+c),z⟩ z N (p+c) ff ff;rw[e2];unfold Tw;rw[e3,aa];by_cases he:e=0;·subst he;exact⟨_,rfl,rfl,by simp only[aB];omega,.inl rfl,fun h=>absurd rfl h⟩
     ·have he2:(e !=0)=true:=by simpa using he
      simp only[he,he2,aB,aC];exact⟨_,rfl,rfl,aH _,by simp only;omega,fun _=>rfl⟩
    ·simp only[hz0,aC,aT];have hal2:(a.drop (p+c)).length=a.length-(p+c):=aM;have hz1:z≠0:=by simpa using hz0
     have w1:wr .u64 ((a.drop (p+c)).length:Int)=((a.length-(p+c):Nat):Int):=by rw[hal2,Ff ff]
     have w2:wr .i64 ((a.length:Int)-((p+c:Nat):Int))=((a.length-(p+c):Nat):Int):=by rw[Aq ff];omega
     have w3:wr .i64 z=z:=Aq ff;rw[w1,w2,w3];by_cases hlt:((a.length-(p+c):Nat):Int)<z;·simp only[aF hlt,aB];exact⟨_,rfl,rfl,aH _,.inr (.inr (.inl rfl)),fun _=>rfl⟩
     ·obtain⟨n,rfl⟩: ∃n:Nat,z=(n:Int):=⟨z.toNat,ff⟩;simp only[aN hlt,al,aC];have s1:=A8 (a.drop (p+c)) 0 n ff ff;rw[aJ,be]at s1;have w4:wr .i64 (((p+c:Nat):Int)+(n:Int))=((p+c+n:Nat):Int):=by rw[Aq ff];omega
      have s2:=A8 a (p+c) (p+c+n) ff ff;rw[show p+c+n-(p+c)=n by omega]at s2;have hx:((a.drop (p+c)).take n).length=n:=by rw[aY];omega
      simp only[show((0:Nat):Int)=0 from rfl]at s1;rw[s1,aa,w4,s2,aa,Ut _ _ _ ff,aa,Bw ff,aa,aT,AVd,aa,Bt ff,Y4 hb ff,aa];generalize hq:p+c+n=q at *;have ho:=AF4 (a.drop q);by_cases hE:Ih (a.drop q)=0
      ·obtain⟨t1,t2⟩:=Aey hE;have hl2:=AAR hE;rw[aM]at hl2;have hA:QA (a.drop q)=a.drop (q+2):=by unfold QA;rw[ap hE,aT]
       simp only[t1,t2,hE,hA,aB,z,al,aC];have ih:=Zz hb hN hlim k (q+2) (n:Int) true (buf++(a.drop (p+c)).take n) ff ff (by rw[ah,hx];omega);obtain⟨r,i1,i2,i3,i4⟩:=ih;refine⟨r,i1,?_,?_,i4⟩;·exact i2
       ·rw[ah,hx]at i3;omega
      ·have hE2:(Ih (a.drop q) !=0)=true:=by simpa using hE
       simp only[hE2,aB];have hno: ¬(Ih (Em (a.drop q))=0∧GQ (a.drop q)=[]):=fun h=>hE (by rw[Aig h.2]at h;exact h.1);have hxs:sub a (q:Int) (a.length:Int)=some (a.drop q):=Bw ff;have hEv:(if(a.drop q==[])=true then some (([]:List UInt8),(191:Int))else if(a.drop q==[13])=true then some ([],191)else some ([],190))=some ([],Ih (a.drop q)):=by
        have hpf: ¬preB [13,10] (a.drop q)=true:=fun h=>hE (by unfold Ih;rw[ap h]);unfold Ih;rw[aj hpf];cases a.drop q==[];·cases a.drop q==([13]:List UInt8)<;>rfl
        ·rfl
       refine⟨_,rfl,?_,aH _,by simp only;omega,fun _=>rfl⟩;by_cases h1:Ih (Em (a.drop q))=0
       ·have h2:(GQ (a.drop q)==[])=false:=by rw[bc];exact fun h=>hno ⟨h1,h⟩
        have z0:((0:Int)==0)=true:=rfl;simp only[h1,h2,aB,z0,al,aC,hxs,aa];exact hEv
       ·have h3:(Ih (Em (a.drop q))==0)=false:=by simpa using h1
        simp only[h1,h3,al,aC,hxs,aa];exact hEv
  ·rw[aj h0,ap (by simpa using h0),ap (by simpa using h0)];exact⟨_,rfl,rfl,aH _,by simp only;omega,fun _=>rfl⟩
theorem ALU{a:List UInt8} (hb:a.length≤1000000) (hN:1000010≤N){lim:Int} (hlim:0≤lim): ∃r,M3 N a lim=some r∧Nl N a lim=some r∧r.1.length≤a.length∧(r.2=0∨r.2=142∨r.2=191∨r.2=190)∧(r.2≠0→r.1=[]):=by obtain⟨r,h1,h2,h3,h4⟩:=Zz hb hN hlim N 0 0 false [] (aH _) ff fi;refine⟨r,?_,h2,by simpa using h3,h4⟩;unfold M3;rw[AB];exact h1
end
end Go.VM
namespace Go.VM
section
variable{N:Nat}
end
end Go.VM
namespace Go.VM
section
variable{N:Nat}
end
end Go.VM
namespace Go.VM
section
variable{N:Nat}
end
end Go.VM
namespace Go.VM
section
variable{N:Nat}
end
end Go.VM
namespace Go.VM
section
variable{N:Nat}
end
end Go.VM
namespace Go.VM
section
variable{N:Nat}
theorem Ai8 (c:UInt8) (l:List UInt8):(Bb c l)[0]?=some (BN c l).1:=by rw[Ot];split<;>rfl
end
end Go.VM
namespace Go.VM
section
variable{N:Nat}
def Aiq (l:List UInt8):Bool:=!l.isEmpty&&l.all Gg
def AX6 (l:List UInt8):Int:=if((Ti 4611686018427387904 l).2 !=0)=true then 4611686018427387904 else(Ti 4611686018427387904 l).1
def YY (v:List UInt8):Int×Bool:=if((Bb 44 v).all fun x=>trimB x==trimB (BN 44 v).1&&Aiq (trimB (BN 44 v).1))=true then(AX6 (trimB (BN 44 v).1),true)else(0,false)
theorem Zj (c:UInt8): ∀(n:Nat) (l:List UInt8),l.length=n→∀x,x∈Bb c l→x.length≤l.length:=by
 intro n;induction n using Nat.strongRecOn with
 | _ n ih=>
  intro l hl x hx;rw[Ot]at hx;have h1:=Lp c l;split at hx
  ·rename_i h2;rcases aO.1 hx with rfl|hx;·exact h1.1
   ·have h3:=AL8 h2;have:=ih _ ff (BN c l).2.1 rfl x hx;omega
  ·rw[aX.1 hx];exact h1.1
theorem AB9{F:List UInt8} (hF:F.length≤1000000) (k6:Unit→Option (Int×Bool)) (hN:1000010≤N): ∀xs:List (List UInt8),(∀x,x∈xs→x.length≤1000000)→GI N F k6 xs=if(xs.all fun x=>trimB x==F&&Aiq F)=true then k6 ()else some (0,false)
 |[],_=>rfl
 | x::xs,h=>by
  have hx:=h x (.head _);rw[GI,AAT ff ff,bh];simp only[AB,aa];cases h1:trimB x==F;·rfl
  ·simp only[aB,cr];rw[PI _ ff,aa,AB9 hF k6 hN xs fun y hy=>h y (.tail _ hy)];unfold Aiq;cases (!F.isEmpty&&F.all Gg);·rfl
   ·rfl
theorem ACA{F:List UInt8} (k5:List (List UInt8)→Option (Int×Bool)) (hN:1000010≤N): ∀(suf pre:List (List UInt8)),(∀x,x∈suf→x.length≤1000000)→(pre++suf.map trimB).head?=some F→Jh N k5 suf (pre.length:Int) (pre++suf)=if(suf.all fun x=>trimB x==F&&Aiq F)=true then k5 (pre++suf.map trimB)else some (0,false)
 |[],pre,_,_=>by rw[Jh];rfl
 | x::t,pre,h,hF=>by
  have hx:=h x (.head _);have hset:(pre++x::t).set ((pre.length:Nat):Int).toNat (trimB x)=(pre++[trimB x])++t:=fg;have hi0:idx ((pre++[trimB x])++t) 0=some F:=by rw[show(0:Int)=((0:Nat):Int)from rfl,Ei];cases pre with |nil=>simpa using hF|cons y pre=>simpa using hF
  have hii:idx ((pre++[trimB x])++t) (pre.length:Int)=some (trimB x):=by rw[aL];exact WF pre t (trimB x)
  have ih:=ACA (F:=F) k5 hN t (pre++[trimB x]) (fun y hy=>h y (.tail _ hy)) (by simpa using hF);rw[ah,ba]at ih;have htl:=VJ x;rw[Jh,WF,aa,APD ff ff,aa];simp only[AB,hset,hi0,hii,aa];rw[Uy _ ff,aa,bh,show(pre.length:Int)+1=((pre.length+1:Nat):Int) by omega,ih];have hm:pre++[trimB x]++t.map trimB=pre++(x::t).map trimB:=fg;rw[hm];cases h1:trimB x==F;·cases (!(trimB x).isEmpty&&(trimB x).all Gg)<;>rfl
  ·rw[a8.1 h1];unfold Aiq;cases (!F.isEmpty&&F.all Gg)<;>rfl
theorem AnA{v:List UInt8} (hb:v.length≤1000000) (hN:1000010≤N):Np N v=some (YY v):=by
 unfold Np;have hc:=Lp 44 v;have ht:=VJ (BN 44 v).1;have hM: ∀l:List UInt8,l.length≤1000000→Gp N l 4611686018427387904=some (Ti 4611686018427387904 l):=fun l hl=>ACH (m:=4611686018427387904) ff l ff;rw[SL _ _ ff,aa,AAT ff ff,aa,ACN _ _ hb];simp only[AB,aa];have hs: ∀x,x∈Bb 44 v→x.length≤1000000:=fun x hx=>by have:=Zj 44 _ v rfl x hx;omega
 rw[Bt (by have:=NS 44 v;omega),AB9 ff _ hN _ hs,hM _ ff];unfold YY AX6;split;·rw[aa];generalize Ti 4611686018427387904 _=P;cases (P.2 !=0)<;>rfl
 ·rfl
theorem AVZ{v:List UInt8} (hb:v.length≤1000000) (hN:1000010≤N):Ol N v=some (YY v):=by
 unfold Ol;have hc:=Lp 44 v;have ht:=VJ (BN 44 v).1;have hM: ∀l:List UInt8,l.length≤1000000→KW N l 4611686018427387904=some (Ti 4611686018427387904 l):=fun l hl=>by unfold KW;rw[show(4611686018427387904:Int)=((4611686018427387904:Nat):Int)from rfl,ZT ff ff _ ff,aa]
 have hsp:ASR (Ea N v 44)=some (Bb 44 v):=Wz v 44 hb;have hs: ∀x,x∈Bb 44 v→x.length≤1000000:=fun x hx=>by have:=Zj 44 _ v rfl x hx;omega
 have hh:((Bb 44 v).map trimB).head?=some (trimB (BN 44 v).1):=by have:=Ai8 44 v;rw[←eN]at this;rw[List.head?_map,this];rfl
 have hl:=ACA (N:=N) (F:=trimB (BN 44 v).1) (fun j4=>Option.bind (idx j4 0) fun x20=>Option.bind (KW N x20 4611686018427387904) fun y21=>if(y21.2 !=0)=true then some (4611686018427387904,true)else some (y21.1,true)) hN (Bb 44 v) [] hs hh;rw[hsp,aa];simp only[AB];rw[Bt (by have:=NS 44 v;omega)];simp only[an,bv]at hl;rw[show((0:Nat):Int)=0 from rfl]at hl;refine hl.trans ?_;have hi:idx ((Bb 44 v).map trimB) 0=some (trimB (BN 44 v).1):=by rw[show(0:Int)=((0:Nat):Int)from rfl,Ei,←eN];exact hh
 rw[hi,aa,hM _ ff,aa];unfold YY AX6;split;·generalize Ti 4611686018427387904 _=P;cases (P.2 !=0)<;>rfl
 ·rfl
theorem AeS (m:Nat) (l:List UInt8):0≤(Ti m l).1∧(Ti m l).1≤m:=by
 unfold Ti;split;·exact⟨bg 0,ff⟩
 ·split
  ·split;·exact⟨by simp only;omega,by simp only;omega⟩
   ·exact⟨bg 0,ff⟩
  ·exact⟨bg 0,ff⟩
theorem AhV (l:List UInt8):0≤AX6 l∧AX6 l≤4611686018427387904:=by unfold AX6;have:=AeS 4611686018427387904 l;split<;>omega
theorem Afq (v:List UInt8):0≤(YY v).1∧(YY v).1≤4611686018427387904:=by
 unfold YY;split;·exact AhV _
 ·exact⟨bg 0,(by show(0:Int)≤4611686018427387904;decide)⟩
theorem AQX (name:List UInt8): ∀fs:List ApiField,O7 (EN name fs)≤Dq fs
 |[]=>aq _
 | f::fs=>by
  have ih:=AQX name fs;unfold EN O7 Dq at *;rw[di];split;·simp only[aE,ce];omega
  ·simp only[aE,ce];omega
theorem APA{fs:List ApiField}{f:ApiField} (h:f∈fs):f.name.length+f.value.length≤Dq fs:=by
 induction fs with
 |nil=>cases h
 | cons g fs ih=>
  unfold Dq at *;rcases aO.1 h with rfl|h;·simp only[aE,ce];omega
  ·have:=ih h;simp only[aE,ce];omega
theorem ACi{h:ApiHead} (hh:Fok 16384 h.fields):hdB h:=⟨by have:=hh.1;omega,fun f hf=>by have:=APA hf;have:=hh.2;omega⟩
theorem AiQ{h:ApiHead} (hh:Fok 16384 h.fields) (name:List UInt8):(ABP h name).1.length≤20000:=by have h1:=AQX name h.fields;have h2:=AaM [44,32] (EN name h.fields);have h3:=AOY name h.fields;obtain⟨h4,h5⟩:=hh;unfold ABP;simp only[ag,an]at h2⊢;omega
set_option maxHeartbeats 4000000 in theorem ATl{h:ApiHead} (hh:Fok 16384 h.fields){a:List UInt8} (hb:a.length≤1000000) (hN:1000010≤N){lim:Int} (hl9:lim≤9223372036854775807):QS N h a lim=Ig N h a lim∧∃r,Ig N h a lim=some r∧r.1.length≤a.length∧(r.2=0∨r.2=4∨r.2=142∨r.2=190∨r.2=191):=by
 unfold QS Ig;by_cases h0:lim<0;·rw[ap (aF h0),ap (aF h0)];exact⟨rfl,_,rfl,aH _,.inr (.inl rfl)⟩
 ·have hd:=ACi hh;have hg1:=AiQ hh [116,114,97,110,115,102,101,114,45,101,110,99,111,100,105,110,103];have hg2:=AiQ hh [99,111,110,116,101,110,116,45,108,101,110,103,116,104];have hz:decide (lim<0)=false:=aN h0;simp only[hz,al,aC];rw[VP hd _ fh,VP hd _ fh,Ri hd _ fh,Ri hd _ fh];generalize ABP h [116,114,97,110,115,102,101,114,45,101,110,99,111,100,105,110,103]=T at *;generalize ABP h [99,111,110,116,101,110,116,45,108,101,110,103,116,104]=L at *;obtain⟨r,c1,c2,c3,c4,c5⟩:=ALU hb hN (lim:=lim) ff;have hlr:=Afq L.1;have wl:wr .u64 lim=lim:=Ff ff;have wa:wr .u64 (a.length:Int)=(a.length:Int):=Ff ff;simp only[AB,aa,lower_eq _ (show T.1.length≤2^60 by omega),Om _ (show T.1.length≤2^60 by omega),AnA (show L.1.length≤1000000 by omega) hN,AVZ (show L.1.length≤1000000 by omega) hN,c1,c2,wl,wa];generalize YY L.1=Z at *;have fin: ∃q:List UInt8×Int,((if decide (Z.1>lim)=true then some (([]:List UInt8),(142:Int))else if decide ((a.length:Int)<Z.1)=true then some ([],191)else Option.bind (sub a 0 Z.1) fun x19=>some (x19,0))=some q)∧q.1.length≤a.length∧(q.2=0∨q.2=4∨q.2=142∨q.2=190∨q.2=191):=by
   by_cases e1:Z.1>lim;·rw[ap (aF e1)];exact⟨_,rfl,aH _,.inr (.inr (.inl rfl))⟩
   ·rw[aj (by simp only[au];exact e1)];by_cases e2:(a.length:Int)<Z.1;·rw[ap (aF e2)];exact⟨_,rfl,aH _,.inr (.inr (.inr (.inr rfl)))⟩
    ·obtain⟨n,hn⟩: ∃n:Nat,Z.1=(n:Int):=⟨Z.1.toNat,ff⟩;have hs:=A8 a 0 n ff ff;rw[aJ,be,show((0:Nat):Int)=0 from rfl]at hs;rw[aj (by simp only[au];exact e2),hn,hs];exact⟨_,rfl,by simp only[aY];omega,.inl rfl⟩
  have fin2: ∃q:List UInt8×Int,((if decide ((a.length:Int)>lim)=true then some (([]:List UInt8),(142:Int))else some (a,0))=some q)∧q.1.length≤a.length∧(q.2=0∨q.2=4∨q.2=142∨q.2=190∨q.2=191):=by
   split;·exact⟨_,rfl,aH _,.inr (.inr (.inl rfl))⟩
   ·exact⟨_,rfl,aq _,.inl rfl⟩
  have bare: ∃q:List UInt8×Int,some (([]:List UInt8),(0:Int))=some q∧q.1.length≤a.length∧(q.2=0∨q.2=4∨q.2=142∨q.2=190∨q.2=191):=⟨_,rfl,aH _,.inl rfl⟩;have bad: ∃q:List UInt8×Int,some (([]:List UInt8),(190:Int))=some q∧q.1.length≤a.length∧(q.2=0∨q.2=4∨q.2=142∨q.2=190∨q.2=191):=⟨_,rfl,aH _,.inr (.inr (.inr (.inl rfl)))⟩;have ch:(if(r.2 !=0)=true then some (([]:List UInt8),r.2)else some (r.1,0))=some (r.1,r.2):=by
   by_cases e:r.2=0;·rw[aj (by rw[e];decide),e]
   ·rw[ap (by simpa using e),c5 e]
  obtain⟨q1,f1,f2,f3⟩:=fin;obtain⟨q2,g1,g2,g3⟩:=fin2;have rok:r.2=0∨r.2=4∨r.2=142∨r.2=190∨r.2=191:=ff;simp only[f1,g1,ch];generalize decide (h.status≥100)=b1;generalize decide (h.status≤199)=b2;generalize (h.status==204)=b3;generalize (h.status==304)=b4;generalize (List.map FI T.1==[99,104,117,110,107,101,100])=b5;generalize T.2=t2;generalize L.2=l2;generalize Z.2=z2;have e1: ∃q:List UInt8×Int,some q1=some q∧q.1.length≤a.length∧(q.2=0∨q.2=4∨q.2=142∨q.2=190∨q.2=191):=⟨_,rfl,f2,f3⟩;have e2: ∃q:List UInt8×Int,some q2=some q∧q.1.length≤a.length∧(q.2=0∨q.2=4∨q.2=142∨q.2=190∨q.2=191):=⟨_,rfl,g2,g3⟩;have e3: ∃q:List UInt8×Int,some (r.1,r.2)=some q∧q.1.length≤a.length∧(q.2=0∨q.2=4∨q.2=142∨q.2=190∨q.2=191):=⟨_,rfl,c3,rok⟩;cases t2
  ·cases l2;·cases b1<;>cases b2<;>cases b3<;>cases b4<;>simp only[aB,aC,al,dB]<;>first| exact bare| exact e2
   ·cases z2<;>cases b1<;>cases b2<;>cases b3<;>cases b4<;>simp only[aB,aC,al,dB]<;>first| exact bare| exact bad| exact e1
  ·cases l2;·cases b5<;>cases b1<;>cases b2<;>cases b3<;>cases b4<;>simp only[aB,aC,al,bL,bI,dB]<;>first| exact bare| exact bad| exact e3
   ·cases b1<;>cases b2<;>cases b3<;>cases b4<;>simp only[aB,aC,al,dB]<;>first| exact bare| exact bad
end
end Go.VM
namespace Go.VM
section
variable{N:Nat}
end
end Go.VM
namespace Go.VM
section
variable{N:Nat}
def Zo:List UInt8:=[104,116,116,112,115]
theorem AMS:QD Zo:=by unfold QD;decide
def Alr (u:ApiURL):List UInt8:=[47,47]++(hpF u.host u.port++(LV u++if u.hasFrag=true then [35]++u.fragment else []))
theorem AIS (u:ApiURL):KA u=Zo++58::Alr u:=by unfold KA Alr Zo;split<;>simp
def eqU (u v:ApiURL):Bool:=u.host==v.host&&(u.port==v.port&&(u.path==v.path&&(u.query==v.query&&(u.fragment==v.fragment&&(u.hasQuery==v.hasQuery&&u.hasFrag==v.hasFrag)))))
def OJ (N:Nat) (u:ApiURL):Bool:=if((AXq N Zo (Alr u)).2==0)=true then eqU u (AXq N Zo (Alr u)).1 else false
theorem P8 (u:ApiURL) (h:WZ u) (hb:(KA u).length≤1000000) (hN:20000≤N):IM N u=some (OJ N u):=by rw[AIS]at hb;unfold IM OJ;rw[AAL u h ff,aa,AIS,Amb AMS hb hN,aa];split<;>rfl
theorem QM (u:ApiURL) (h:WZ u) (hb:(KA u).length≤1000000) (hN:20000≤N):JM N u=some (OJ N u):=by rw[AIS]at hb;unfold JM OJ;rw[Rn u h ff,aa,AIS,AlE AMS hb hN,aa];split<;>rfl
end
end Go.VM
namespace Go.VM
section
variable{N:Nat}
def AQU (b r:List UInt8):List UInt8:=match OV b b.length with|some i=>b.take (i+1)++r|none=>r
def VU (a b:ApiURI):List UInt8:=if(a.hasAuthority&&(a.path==[]))=true then 47::b.path else AQU a.path b.path
theorem Acs (b r:List UInt8):(AQU b r).length≤b.length+r.length:=by grind[AQU]
theorem Y5 (a b:ApiURI):(VU a b).length≤a.path.length+b.path.length+1:=by grind[VU,Acs]
theorem AW8 (a b:ApiURI) (ha:a.path.length≤100000) (hb:b.path.length≤100000) (hN:1000000≤N):QW N a b=some (if preB [47] b.path=true then b.path else VU a b):=by
 unfold QW VU;rw[TW,aa];by_cases h:preB [47] b.path=true;·grind
 rw[aj h,aj h];refine(Ik (a:=a.hasAuthority&&(a.path==[])) fun k=>by cases a.hasAuthority<;>rfl).trans ?_;by_cases h2:(a.hasAuthority&&(a.path==[]))=true;·rw[ap h2,ap h2,Bt (by grind)];rfl
 rw[aj h2,aj h2,AC2 _ ff ff,aa];unfold AQU;cases h3:OV a.path a.path.length with | none=>dsimp only;rw[show sub a.path 0 (wr .i64 ((-1:Int)+1))=some []from by rw[show wr .i64 ((-1:Int)+1)=((0:Nat):Int)from rfl,show(0:Int)=((0:Nat):Int)from rfl,A8 _ 0 0 (aq _) (aH _)];simp,aa,Bt (by grind)];rfl| some i=>have:=WO h3;dsimp only;rw[show wr .i64 ((i:Int)+1)=((i+1:Nat):Int) by grind[Aq],show(0:Int)=((0:Nat):Int)from rfl,A8 _ 0 _ (aH _) ff,aa,aJ,be,Bt (by grind)]
theorem YL{a b:ApiURI} (ha:a.path.length≤100000) (hb:b.path.length≤100000): ∀(n k:Nat),n≤a.path.length→n<k→EJ N a b (fun _=>some b.path) k ((n:Int)-1)=some (match OV a.path n with|some i=>a.path.take (i+1)++b.path|none=>b.path)
 |n,0,_,h=>by omega
 |0,k+1,_,_=>by rw[EJ,aj fh];rfl
 | n+1,k+1,hn,hk=>by
  rw[EJ,ap fg,show((n+1:Nat):Int)-1=(n:Int) by omega,Ei,aK ff,aa,b47,OV,aK ff];by_cases h:a.path[n]=47;·rw[aF h,ap rfl,ap (by rw[h]),show wr .i64 ((n:Int)+1)=((n+1:Nat):Int) by grind[Aq],show(0:Int)=((0:Nat):Int)from rfl,A8 _ 0 _ (aH _) ff,aa,aJ,be,Bt (by grind)]
  ·rw[aN h,aj fh,aj (by grind),Aq ff];exact YL ha hb n k ff ff
theorem AU0 (a b:ApiURI) (ha:a.path.length≤100000) (hb:b.path.length≤100000) (hN:1000000≤N):ND N a b=some (VU a b):=by
 unfold ND VU AQU;refine(Ik (a:=a.hasAuthority&&(a.path==[])) fun k=>by cases a.hasAuthority<;>rfl).trans ?_;by_cases h2:(a.hasAuthority&&(a.path==[]))=true;·rw[ap h2,ap h2,Bt (by grind)];rfl
 rw[aj h2,aj h2,AB,Aq ff,YL ha hb a.path.length N (aq _) ff]
def ABA (N:Nat) (a b:ApiURI):ApiURI:=if b.hasScheme=true then⟨b.scheme,b.authority,KC N b.path [],b.query,b.fragment,b.hasScheme,b.hasAuthority,b.hasQuery,b.hasFrag⟩ else if b.hasAuthority=true then⟨a.scheme,b.authority,KC N b.path [],b.query,b.fragment,a.hasScheme,b.hasAuthority,b.hasQuery,b.hasFrag⟩ else if(b.path==[])=true then if b.hasQuery=true then⟨a.scheme,a.authority,a.path,b.query,b.fragment,a.hasScheme,a.hasAuthority,b.hasQuery,b.hasFrag⟩ else⟨a.scheme,a.authority,a.path,a.query,b.fragment,a.hasScheme,a.hasAuthority,a.hasQuery,b.hasFrag⟩ else⟨a.scheme,a.authority,KC N (if preB [47] b.path=true then b.path else VU a b) [],b.query,b.fragment,a.hasScheme,a.hasAuthority,b.hasQuery,b.hasFrag⟩
theorem Anv (a b:ApiURI) (h:a.path.length+b.path.length≤36000) (hN:1000000≤N):Nt N a b=some (ABA N a b):=by
 unfold Nt ABA;have ml:=Y5 a b;dsimp only[AB];cases h1:b.hasScheme;rotate_left;·rw[ap rfl,ap rfl,Z5 _ ff ff,aa]
 simp only[al,aC];cases h2:b.hasAuthority;rotate_left;·simp only[aB];rw[Z5 _ ff ff,aa]
 simp only[al,aC];by_cases h3:(b.path==[])=true;·simp only[h3,aB];cases b.hasQuery<;>rfl
 simp only[aj h3];rw[AW8 a b ff ff hN,aa,Z5 _ ff (by split<;>omega),aa]
theorem AtX{c:UInt8}{t:List UInt8}:preB [47] (c::t)=(c==47):=by grind[preB]
theorem AlR (a b:ApiURI) (h:a.path.length+b.path.length≤36000) (hN:1000000≤N):LP N a b=some (ABA N a b):=by
 unfold LP ABA;have ml:=Y5 a b;dsimp only[AB];cases h1:b.hasScheme;rotate_left;·rw[ap rfl,ap rfl,WS _ ff ff,aa]
 simp only[al,aC];cases h2:b.hasAuthority;rotate_left;·simp only[aB];rw[WS _ ff ff,aa]
 simp only[al,aC];by_cases h3:(b.path==[])=true;·simp only[h3,aB];cases b.hasQuery<;>rfl
 simp only[aj h3];rw[AU0 a b ff ff hN,aa,WS _ ff ff,aa];cases hp:b.path with
 |nil=>simp_all
 | cons c t=>
  rw[show idx (c::t) 0=some c from rfl,aa,b47,AtX];by_cases h4:c=47;·rw[aF h4,ap rfl,ap (by grind),WS _ ff (by grind),aa]
  simp_all
def ASW (u:ApiURI):List UInt8:=(((((if u.hasScheme=true then u.scheme++[58]else [])++(if u.hasAuthority=true then [47,47]++u.authority else []))++u.path)++(if u.hasQuery=true then [63]++u.query else []))++(if u.hasFrag=true then [35]++u.fragment else []))
def uB (u:ApiURI) (n:Nat):Prop:=u.scheme.length≤n∧u.authority.length≤n∧u.path.length≤n∧u.query.length≤n∧u.fragment.length≤n
theorem Vg (f:Bool) (x y:List UInt8) (d:Bool) (b:List UInt8) (h:b.length+x.length+y.length≤1000000000): ∃d',Hd N f [x,y] ⟨d,b⟩=some ⟨d',b++(if f=true then x++y else [])⟩:=by
 unfold Hd;rw[Bt fg];cases f;·refine⟨d,?_⟩;simp only[Fy,AB,al,aC,bf]
 ·refine⟨true,?_⟩;simp only[Fy,AB,aB];rw[Ut _ _ _ ff,aa,Ut _ _ _ (by rw[ah];omega),aa,aL]
theorem AXu (x:List UInt8) (d:Bool) (b:List UInt8) (h:b.length+x.length≤1000000000):Hd N true [x] ⟨d,b⟩=some ⟨true,b++x⟩:=by unfold Hd;rw[Bt fg];simp only[Fy,AB,aB];rw[Ut _ _ _ ff,aa]
theorem AKz (u:ApiURI) (h:uB u 1000000):Sm N u=some (ASW u):=by
 obtain⟨h1,h2,h3,h4,h5⟩:=h;unfold Sm letL ASW;dsimp only;obtain⟨d1,e1⟩:=Vg (N:=N) u.hasScheme u.scheme [58] false [] (by grind);rw[e1,aa,bv];generalize hA:(if u.hasScheme=true then u.scheme++[58]else [])=A;have lA:A.length≤1000001:=by grind
 obtain⟨d2,e2⟩:=Vg (N:=N) u.hasAuthority [47,47] u.authority d1 A (by grind);rw[e2,aa];generalize hB:(if u.hasAuthority=true then [47,47]++u.authority else [])=B;have lB:B.length≤1000002:=by grind
 rw[AXu _ _ _ (by grind),aa];obtain⟨d3,e3⟩:=Vg (N:=N) u.hasQuery [63] u.query true ((A++B)++u.path) (by grind);rw[e3,aa];generalize hC:(if u.hasQuery=true then [63]++u.query else [])=C;have lC:C.length≤1000001:=by grind
 obtain⟨d4,e4⟩:=Vg (N:=N) u.hasFrag [35] u.fragment d3 (((A++B)++u.path)++C) (by grind);rw[e4,aa];rfl
theorem AgU (u:ApiURI) (h:uB u 1000000):PW N u=some (ASW u):=by
 obtain⟨h1,h2,h3,h4,h5⟩:=h;unfold PW ASW;generalize hA:(if u.hasScheme=true then u.scheme++[58]else [])=A;have lA:A.length≤1000001:=by grind
 refine(Ik (a:=A) fun k=>?_).trans ?_;·grind[Bt]
 generalize hB:(if u.hasAuthority=true then [47,47]++u.authority else [])=B;have lB:B.length≤1000002:=by grind
 refine(Ik (a:=A++B) fun k=>?_).trans ?_
 ·rw[←hB];split;·rw[Bt fi,Bt fi]
  ·rw[bf]
 rw[Bt (by grind)];generalize hC:(if u.hasQuery=true then [63]++u.query else [])=C;have lC:C.length≤1000001:=by grind
 refine(Ik (a:=((A++B)++u.path)++C) fun k=>?_).trans ?_
 ·rw[←hC];split;·rw[Bt fi,Bt (by simp only[ah,ag,an];omega)]
  ·rw[bf]
 refine(Ik (a:=(((A++B)++u.path)++C)++(if u.hasFrag=true then [35]++u.fragment else [])) fun k=>?_).trans rfl;split;·rw[Bt fi,Bt (by simp only[ah,ag,an];omega)]
 ·rw[bf]
theorem AVh{u:ApiURI}{n:Nat} (h:uB u n):(ASW u).length≤5 * n+6:=by obtain⟨h1,h2,h3,h4,h5⟩:=h;unfold ASW;simp only[ah];grind
theorem AV2{a b:ApiURI}{n:Nat} (ha:uB a n) (hb:uB b n):uB (ABA N a b) (2 * n+1):=by
 obtain⟨a1,a2,a3,a4,a5⟩:=ha;obtain⟨b1,b2,b3,b4,b5⟩:=hb;have ml:=Y5 a b;have d1:=M5 N b.path [];have d2:=M5 N (if preB [47] b.path=true then b.path else VU a b) [];have d3:(if preB [47] b.path=true then b.path else VU a b).length≤2 * n+1:=by split<;>omega
 grind[ABA,uB]
def ALN (N:Nat) (a:ApiURL) (r:List UInt8):ApiURL×Int:=if OJ N a=true then if((Lm r).2 !=0)=true then(N9,(Lm r).2) else if((ABA N (Lm (KA a)).1 (Lm r).1).scheme.map FI==List.map FI [104,116,116,112,115])=true then AA1 N (ASW (ABA N (Lm (KA a)).1 (Lm r).1)) else(N9,253) else(N9,8)
theorem AII{s:List UInt8}{n:Nat} (h:s.length≤n):uB (Lm s).1 n:=by obtain⟨l1,l2,l3,l4,l5⟩:=Pp s;exact⟨ff,ff,ff,ff,ff⟩
theorem Anu (a:ApiURL) (r:List UInt8) (h:WZ a) (hw:(KA a).length≤5000) (hr:r.length≤20000) (hN:1000000≤N):Jf N a r=some (ALN N a r):=by
 unfold Jf ALN;rw[P8 a h ff ff,aa];cases OJ N a;·rfl
 simp only[aB];rw[AAL a h ff,aa,Qz _ ff ff,aa,Qz _ ff ff,aa];by_cases h2:((Lm r).2 !=0)=true;·rw[ap h2,ap h2];rfl
 rw[aj h2,aj h2];have u1:=AII (s:=KA a) (n:=20000) ff;have u2:=AII (s:=r) (n:=20000) hr;have p1:=(Pp (KA a)).2.1;have p2:=(Pp r).2.1;rw[Anv _ _ ff hN,aa];have u3:=AV2 (N:=N) u1 u2;generalize ABA N (Lm (KA a)).1 (Lm r).1=U at *;rw[Wl _ _ (by have:=u3.1;omega) fh,aa];cases (U.scheme.map FI==List.map FI [104,116,116,112,115]);·rfl
 simp only[aB];have j:=AVh u3;rw[AKz U ⟨by have:=u3.1;omega,by have:=u3.2.1;omega,by have:=u3.2.2.1;omega,by have:=u3.2.2.2.1;omega,by have:=u3.2.2.2.2;omega⟩,aa,AM4 _ ff ff,aa]
theorem Aku (a:ApiURL) (r:List UInt8) (h:WZ a) (hw:(KA a).length≤5000) (hr:r.length≤20000) (hN:1000000≤N):Kg N a r=some (ALN N a r):=by
 unfold Kg ALN;rw[QM a h ff ff,aa];cases OJ N a;·rfl
 simp only[aB];rw[Rn a h ff,aa,UM _ ff,aa,UM _ ff,aa];by_cases h2:((Lm r).2 !=0)=true;·rw[ap h2,ap h2];rfl
 rw[aj h2,aj h2];have u1:=AII (s:=KA a) (n:=20000) ff;have u2:=AII (s:=r) (n:=20000) hr;have p1:=(Pp (KA a)).2.1;have p2:=(Pp r).2.1;rw[AlR _ _ ff hN,aa];have u3:=AV2 (N:=N) u1 u2;generalize ABA N (Lm (KA a)).1 (Lm r).1=U at *;rw[Wh _ _ (by have:=u3.1;omega) fh,aa];cases (U.scheme.map FI==List.map FI [104,116,116,112,115]);·rfl
 simp only[aB];have j:=AVh u3;rw[AgU U ⟨by have:=u3.1;omega,by have:=u3.2.1;omega,by have:=u3.2.2.1;omega,by have:=u3.2.2.2.1;omega,by have:=u3.2.2.2.2;omega⟩,aa,AMh _ ff ff,aa]
end
end Go.VM
namespace Go.VM
section
variable{N:Nat}
theorem Ap5 (U:ApiURI) (h:U.path.length≤100000∧U.query.length≤100000∧U.fragment.length≤100000):WZ (AUp N U).1∧(KA (AUp N U).1).length≤4096:=by
 have z:WZ N9∧(KA N9).length≤4096:=⟨⟨⟨bg _,fh⟩,fh,fh,fh,fh⟩,fh⟩;have q1:=ASV U.authority;have q2:=AJU U.authority;have n1:=NB (N:=N) U.path inP;have n2:=NB (N:=N) U.query inQ;have n3:=NB (N:=N) U.fragment inQ;have pl:=AAD (N:=N) (EH N U.path inP).1;unfold AUp;split;·exact z
 split;·exact z
 split;·exact z
 split;·exact z
 split;·exact z
 split;·exact z
 split;·exact z
 ·rename_i hl;exact⟨⟨q1,by grind,by grind,by grind,by grind⟩,by grind⟩
theorem Aqd (s:List UInt8):WZ (AA1 N s).1∧(KA (AA1 N s).1).length≤4096:=by have z:WZ N9∧(KA N9).length≤4096:=⟨⟨⟨bg _,fh⟩,fh,fh,fh,fh⟩,fh⟩;grind[AA1,Pp,Ap5]
theorem ArO (a:ApiURL) (r:List UInt8):WZ (ALN N a r).1∧(KA (ALN N a r).1).length≤4096:=by have z:WZ N9∧(KA N9).length≤4096:=⟨⟨⟨bg _,fh⟩,fh,fh,fh,fh⟩,fh⟩;grind[ALN,Aqd]
end
end Go.VM
namespace Go.VM
section
variable{N:Nat}
def KT (u:ApiURL):Prop:=WZ u∧(KA u).length≤4096
theorem AAE:KT N9:=⟨⟨⟨bg _,fh⟩,fh,fh,fh,fh⟩,fh⟩
def O5 (u:ApiURL):ApiURL:=⟨u.host,u.port,u.path,u.query,[],u.hasQuery,false⟩
theorem ACX{u:ApiURL} (h:KT u):KT (O5 u):=by
 obtain⟨⟨h1,h2,h3,h4,h5⟩,h6⟩:=h;refine⟨⟨h1,h2,h3,h4,aH _⟩,?_⟩;have e1:KA (O5 u)=([104,116,116,112,115,58,47,47]++hpF u.host u.port)++LV u:=rfl;have e2:(([104,116,116,112,115,58,47,47]++hpF u.host u.port)++LV u).length≤(KA u).length:=by
  unfold KA;split;·rw[ah (as:=([104,116,116,112,115,58,47,47]++hpF u.host u.port)++LV u)];omega
  ·exact aq _
 rw[e1];omega
def O9 (a b:ApiURL):Bool:=a.host==b.host&&(a.port==b.port&&(a.path==b.path&&(a.query==b.query&&(a.fragment==b.fragment&&(a.hasQuery==b.hasQuery&&a.hasFrag==b.hasFrag)))))
theorem RJ{α:Type} [BEq α] [LawfulBEq α] (a b:α):(a==b)=(b==a):=by
 by_cases h:a=b;·subst h;rfl
 ·rw[bc.2 h,bc.2 (du h)]
theorem AW5 (a b:ApiURL):O9 a b=O9 b a:=by unfold O9;rw[RJ a.host,RJ a.port,RJ a.path,RJ a.query,RJ a.fragment,RJ a.hasQuery,RJ a.hasFrag]
theorem AeT (s:Int):FD N s=JH N s∧∃b,JH N s=some b:=by
 unfold FD JH;simp only[AB];by_cases h1:s=301;·subst h1;exact⟨rfl,_,rfl⟩
 by_cases h2:s=302;·subst h2;exact⟨rfl,_,rfl⟩
 by_cases h3:s=303;·subst h3;exact⟨rfl,_,rfl⟩
 by_cases h4:s=307;·subst h4;exact⟨rfl,_,rfl⟩
 by_cases h5:s=308;·subst h5;exact⟨rfl,_,rfl⟩
 have e1:(s==301)=false:=bc.2 h1;have e2:(s==302)=false:=bc.2 h2;have e3:(s==303)=false:=bc.2 h3;have e4:(s==307)=false:=bc.2 h4;have e5:(s==308)=false:=bc.2 h5;simp only[e1,e2,e3,e4,e5,al,aC];by_cases g:s≥301;·rw[ap (aF g),aj (by simp only[au];omega)];exact⟨rfl,_,rfl⟩
 ·rw[aj (by simp only[au];exact g)];exact⟨rfl,_,rfl⟩
theorem AC5 (u:ApiURL) (k2:Unit→Option Int) (hk:k2 ()=some (-1)): ∀(l:List ApiURL) (i:Int),0≤i→∃r,BB N u k2 l i=some r∧decide (r≥0)=l.any (O9 u)
 |[],i,_=>⟨-1,hk,rfl⟩
 | x::l,i,hi=>by
  rw[BB,cG];show∃r,(if O9 u x=true then some i else _)=some r∧_;cases h:O9 u x;·obtain⟨r,h1,h2⟩:=AC5 u k2 hk l (i+1) ff;exact⟨r,h1,by simpa using h2⟩
  ·exact⟨i,rfl,by simpa using hi⟩
theorem AfE (u:ApiURL) (l:List ApiURL) (hl:l.length≤1000000):Cf N l u=some (l.any (O9 u)):=by unfold Cf EI;rw[AB,Bt ff];obtain⟨r,h1,h2⟩:=AC5 (N:=N) u (fun _=>some (-1)) rfl l 0 (bg _);rw[h1,aa,h2]
theorem Zq (u:ApiURL) (k14:Unit→Option (ApiURL×Int)): ∀l:List ApiURL,Nc N u k14 l=if l.any (O9 u)=true then some (N9,251)else k14 () |[]=>rfl| x::l=>by rw[Nc,cG,Zq u k14 l];show(if O9 x u=true then _ else _)=_;rw[AW5 x u];cases O9 u x<;>rfl
theorem Ae5{name v:List UInt8}{fs:List ApiField} (h:v∈EN name fs):v.length≤Dq fs:=by unfold EN at h;obtain⟨f,hf,rfl⟩:=bo.1 h;have:=APA (List.mem_filter.1 hf).1;omega
theorem AUA{u:ApiURL} (hu:KT u){h:ApiHead} (hh:Fok 16384 h.fields){l:List ApiURL} (hl:l.length≤1000000) (c:Int) (hN:1000010≤N):Ld N u h l c=O0 N u h l c∧∃r,O0 N u h l c=some r∧KT r.1:=by
 unfold Ld O0;by_cases h5:c≥5;·rw[ap (aF h5),ap (aF h5)];exact⟨rfl,_,rfl,AAE⟩
 ·have hd:=ACi hh;have e5:decide (c≥5)=false:=aN h5;simp only[e5,al,aC];rw[ANc hd _ fh,AMJ hd _ fh,aa,aa];have hv: ∀v,v∈EN [108,111,99,97,116,105,111,110] h.fields→v.length≤16384:=fun v hv=>by have:=Ae5 hv;have:=hh.2;omega
  generalize EN [108,111,99,97,116,105,111,110] h.fields=V at *;match V,hv with
  |[],_=>exact⟨rfl,_,rfl,AAE⟩
  | x::y::t,_=>
   have e:((((x::y::t:List (List UInt8)).length:Nat):Int) !=1)=true:=by simp;omega
   rw[ap e,ap e];exact⟨rfl,_,rfl,AAE⟩
  | [v],hv=>
   have hvl:=hv v (.head _);have e:(((([v]:List (List UInt8)).length:Nat):Int) !=1)=false:=rfl;have hi:idx [v] 0=some v:=rfl;have hg:KT (ALN N u v).1:=ArO u v;simp only[e,al,aC,AB,hi,aa];rw[Anu u v hu.1 (by have:=hu.2;omega) ff ff,Aku u v hu.1 (by have:=hu.2;omega) ff ff,aa,aa];generalize ALN N u v=R at *;unfold RG;have hb:=ACX hg;simp only[aa];rw[Bt ff,AfE _ _ hl,Zq,aa];cases h1:R.2==253
   ·cases h2:R.2 !=0
    ·simp only[al,aC];show((if l.any (O9 (O5 R.1))=true then _ else _)=(if l.any (O9 (O5 R.1))=true then _ else _))∧_;cases h3:l.any (O9 (O5 R.1));·exact⟨rfl,(O5 R.1,0),by show(if l.any (O9 (O5 R.1))=true then _ else _)=_;rw[h3];rfl,hb⟩
     ·exact⟨rfl,(N9,251),by show(if l.any (O9 (O5 R.1))=true then _ else _)=_;rw[h3];rfl,AAE⟩
    ·exact⟨rfl,_,rfl,AAE⟩
   ·exact⟨rfl,_,rfl,AAE⟩
end
end Go.VM
