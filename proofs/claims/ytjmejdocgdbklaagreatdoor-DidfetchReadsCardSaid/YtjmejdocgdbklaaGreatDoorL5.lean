import Derived.Test.YtjmejdocgdbklaaGreatDoorL4
import Derived.Laws.RangeString
set_option linter.defProp false
set_option linter.unusedVariables false
set_option linter.unusedSimpArgs false
namespace Go.VM
section
variable{N:Nat}
def Qb{l:B8}{i:Nat}{c:UInt8} (h:l[i]?=some c) (hc:c.toNat<128):Dv l i=(c.toNat,1):=by
 have hi:i<l.length:=by grind
 have e:l[i]=c:=by grind
 unfold Dv;have hs:i<(⟨l.toArray⟩:ByteArray).size:=hi;have AQ:((⟨l.toArray⟩:ByteArray)[i]'hs)=c:=e;grind[decode_ascii]
def AVR{set:B8}{c:UInt8} (hc:c.toNat<128):Dm N set ((c.toNat:Nat):Int)=some (Go.Lib.indexByte set c):=by
 unfold Dm;dsimp only[AA];have e:wr .u8 ((c.toNat:Nat):Int)=AC c:=by rw[ADs fy];rfl
 rw[ah fA,ah (by grind),e,Ij];rfl
def ATn (set l:B8):Int:=if(l.any set.contains)=true then(((l.takeWhile λc=>!set.contains c).length:Nat):Int)else-1
def AEM{as:List Bool}{set:B8} (hs:AD9 as set) (k17:List Bool->Option Int): ∀(l:B8) (i:Int),Da N k17 l i as=if(l.any set.contains)=true then some (i+(((l.takeWhile λc=>!set.contains c).length:Nat):Int))else k17 as
 |[],i=>by grind[Da]
 | c::l,i=>by
  rw[Da,ZG hs,aa];dsimp only;cases h:set.contains c;·rw[ae fB,AEM hs k17 l (i+1)];simp only[bT,h,be,aJ,bh,av,ag];grind
  simp_all
def AEu{set l:B8} (k24:Unit->Option Int): ∀(t pre:B8) (k:Nat),l=pre++t->t.length<k->(∀c,c∈(t.takeWhile λc=>!set.contains c)->c.toNat<128)->(∀c,c∈set->c.toNat<128)->CR N l set k24 k pre.length=if(t.any set.contains)=true then some (((pre.length+(t.takeWhile λc=>!set.contains c).length:Nat):Int))else k24 ()
 |_,_,0,_,h,_,_=>by omega
 | [],pre,k+1,h,_,_,_=>by simp_all[CR]
 | c::t,pre,k+1,h,hk,ha,hset=>by
  simp only[ag]at hk;have hget:l[pre.length]?=some c:=by grind
  have hc:c.toNat<128:=by grind[AQ,List.takeWhile_cons]
  rw[CR,ah (by grind),Qb hget hc];dsimp only;rw[AVR hc,aa,Jc];cases AQ:set.contains c;·rw[ae fB];have:=AEu (l:=l) (set:=set) k24 t (pre++[c]) k (by grind) fy (λx hm=>ha x (by simp_all)) hset;rw[an,fg]at this;rw[this];simp only[bT,AQ,be,aJ,bh,av,ag];grind
  simp_all
theorem YA{set l:B8} (h2:2<=set.length) (hs:set.length<=1000) (hset: ∀c,c∈set->c.toNat<128) (ha:l.length<=8->∀c,c∈(l.takeWhile λc=>!set.contains c)->c.toNat<128) (hb:l.length<=1000000) (hN:20<=N):strings_IndexAny N l set=some (ATn set l):=by
 unfold strings_IndexAny ATn;have hne:set≠ []:=λe=>by grind
 have hsh:strings_shouldUseASCIISet N (l.length:Int)=some (decide ((l.length:Int)>8)):=rfl;obtain⟨as,e1,e2⟩:=APX (N:=N) set hset hs;rw[ae (by grind),ae (by grind)];dsimp only[AA];rw[hsh,aa];by_cases h:l.length>8;·rw[ah (by grind),e1,aa,AJ Xw];dsimp only;rw[AJ e2.1,ah rfl,BS fy,AEM e2];split<;>simp
 ·rw[ae (by grind),show(0:Nat)=([]:B8).length from rfl,AEu (l:=l) _ l [] N rfl fy (ha fy) hset];split<;>simp
def AUJ{set l:B8} (h2:2<=set.length) (hs:set.length<=1000) (hset: ∀c,c∈set->c.toNat<128) (ha:l.length<=8->∀c,c∈(l.takeWhile λc=>!set.contains c)->c.toNat<128) (hb:l.length<=1000000) (hN:20<=N):strings_ContainsAny N l set=some (l.any set.contains):=by unfold strings_ContainsAny;rw[YA h2 hs hset ha hb hN,aa];unfold ATn;cases l.any set.contains<;>simp
end
end Go.VM
namespace Go.VM
section
variable{N:Nat}
def Am3 (l:B8) (i:Nat):(⟨l.toArray⟩:ByteArray).get! i=l.getD i 0:=by change (l.toArray[i]!)=_;rw[List.getElem!_toArray,List.getElem!_eq_getElem?_getD,List.getD_eq_getElem?_getD];rfl
theorem Adl{l:B8}{i:Nat}{c:UInt8} (h:l[i]?=some c) (hc:128<=c.toNat):∃r w,Dv l i=(r,w)/\128<=r/\r<=1114111/\(Go.Utf8.valid r=true)/\1<=w/\i+w<=l.length/\∀j,j<w->∀d,l[i+j]?=some d->128<=d.toNat:=by
 have hi:i<l.length:=by grind
 have h0:l.getD i 0=c:=by grind
 have one: ∀j,j<1->∀d,l[i+j]?=some d->128<=d.toNat:=λj hj d hd=>by simp_all
 have bad: ∃r w,(Go.Utf8.runeError,1)=(r,w)/\128<=r/\r<=1114111/\(Go.Utf8.valid r=true)/\1<=w/\i+w<=l.length/\∀j,j<w->∀d,l[i+j]?=some d->128<=d.toNat:=⟨_,_,rfl,fB,fB,fB,aw 1,fy,one⟩;have hsz:(⟨l.toArray⟩:ByteArray).size=l.length:=rfl;unfold Dv Go.Utf8.decode;simp only[Am3,hsz,bU,h0];have hb:=UInt8.toNat_lt c;rw[ae fy];split
 ·rename_i h2;simp only[az,bA,aq]at h2;split
  ·rename_i h3;refine⟨_,_,rfl,fy,fy,?_,fy,fy,λj hj=>?_⟩;·unfold Go.Utf8.valid;simp only[bE,az,aq];omega
   ·rcases (by omega:j=0\/j=1)with rfl|rfl;·grind
    grind
  omega
 split
 ·rename_i h2;simp only[az,bA,aq]at h2;split
  ·rename_i h3;simp only[az,ge_iff_le,aq]at h3;refine⟨_,_,rfl,fy,fy,h3.2,fy,fy,λj hj=>?_⟩;rcases (by omega:j=0\/j=1\/j=2)with rfl|rfl|rfl;·grind
   ·grind
   grind
  omega
 split
 ·rename_i h2;simp only[az,bA,aq]at h2;split
  ·rename_i h3;simp only[az,ge_iff_le,aq]at h3;have hv:=h3.2;unfold Go.Utf8.valid at hv;simp only[bE,az,aq]at hv;refine⟨_,_,rfl,fy,fy,h3.2,fy,fy,λj hj=>?_⟩;rcases (by omega:j=0\/j=1\/j=2\/j=3)with rfl|rfl|rfl|rfl;·grind
   ·grind
   ·grind
   grind
  omega
 omega
def APg{l:B8}{set:B8}: ∀(w i:Nat),i+w<=l.length->(∀j,j<w->∀d,l[i+j]?=some d->set.contains d=false)->(l.drop i).any set.contains=(l.drop (i+w)).any set.contains/\((l.drop i).takeWhile λc=>!set.contains c).length=w+((l.drop (i+w)).takeWhile λc=>!set.contains c).length |0,i,_,_=>by simp| w+1,i,h,hs=>by have hi:i<l.length:=fy;have h0:=hs 0 fy l[i] fA;obtain⟨e1,e2⟩:=APg (l:=l) (set:=set) w (i+1) fy λj hj d hd=>hs (j+1) fy d (by grind);rw[eH hi,bT,h0,be,e1,aJ,h0];simp only[bh,av,ag];rw[e2,show i+1+w=i+(w+1) by omega];exact⟨rfl,fy⟩
def ATe{r:Nat} (hv:Go.Utf8.valid r=true):Go.Utf8.encode (r:Int)=(if r<128 then⟨#[UInt8.ofNat r]⟩else if r<2048 then⟨#[UInt8.ofNat (0xC0+r / 64),UInt8.ofNat (0x80+r % 64)]⟩ else if r<65536 then⟨#[UInt8.ofNat (0xE0+r / 4096),UInt8.ofNat (0x80+r / 64 % 64),UInt8.ofNat (0x80+r % 64)]⟩ else⟨#[UInt8.ofNat (0xF0+r / 262144),UInt8.ofNat (0x80+r / 4096 % 64),UInt8.ofNat (0x80+r / 64 % 64),UInt8.ofNat (0x80+r % 64)]⟩:ByteArray):=by
 have e:(if Go.Utf8.valid r=true then(r:Int).toNat else Go.Utf8.runeError)=r:=by simp_all
 simp_all[Go.Utf8.encode]
def Abz{n:Nat} (h:n<64):128<=(UInt8.ofNat (0x80+n)).toNat:=by grind[UInt8.toNat_ofNat']
theorem enc2{r:Nat} (hv:Go.Utf8.valid r=true) (h1: ¬r<128) (h2:r<2048): ∃a b,Go.Utf8.encode (r:Int)=⟨#[a,b]⟩/\128<=b.toNat:=by rw[ATe hv,ae h1,ah h2];exact⟨_,_,rfl,Abz (dp _ fy)⟩
theorem enc3{r:Nat} (hv:Go.Utf8.valid r=true) (h1: ¬r<128) (h2: ¬r<2048) (h3:r<65536): ∃a b c,Go.Utf8.encode (r:Int)=⟨#[a,b,c]⟩/\128<=c.toNat:=by rw[ATe hv,ae h1,ae h2,ah h3];exact⟨_,_,_,rfl,Abz (dp _ fy)⟩
theorem enc4{r:Nat} (hv:Go.Utf8.valid r=true) (h1: ¬r<128) (h2: ¬r<2048) (h3: ¬r<65536): ∃a b c d,Go.Utf8.encode (r:Int)=⟨#[a,b,c,d]⟩/\128<=d.toNat:=by rw[ATe hv,ae h1,ae h2,ae h3];exact⟨_,_,_,_,rfl,Abz (dp _ fy)⟩
theorem ApX{a b:UInt8}:(⟨#[a,b]⟩:ByteArray).data.toList=[a,b]:=rfl
theorem Ap3{a b c:UInt8}:(⟨#[a,b,c]⟩:ByteArray).data.toList=[a,b,c]:=rfl
theorem Ap7{a b c d:UInt8}:(⟨#[a,b,c,d]⟩:ByteArray).data.toList=[a,b,c,d]:=rfl
def HiT (u:B8):Prop:= ∃k c,u.length=k+2/\k<=2/\u[k+1]?=some c/\128<=c.toNat
theorem Aqm{a b:UInt8} (h:128<=b.toNat):HiT [a,b]:=⟨0,b,rfl,fy,rfl,h⟩
theorem Aqe{a b c:UInt8} (h:128<=c.toNat):HiT [a,b,c]:=⟨1,c,rfl,fy,rfl,h⟩
theorem AqW{a b c d:UInt8} (h:128<=d.toNat):HiT [a,b,c,d]:=⟨2,d,rfl,fy,rfl,h⟩
def ArD{r:Nat} (hv:Go.Utf8.valid r=true) (h1: ¬r<128) (h:r<2048):HiT (Go.Utf8.encode (r:Int)).data.toList:=by grind[enc2,ApX,Aqm]
def ArJ{r:Nat} (hv:Go.Utf8.valid r=true) (h1: ¬r<128) (h: ¬r<2048) (h':r<65536):HiT (Go.Utf8.encode (r:Int)).data.toList:=by grind[enc3,Ap3,Aqe]
def ArB{r:Nat} (hv:Go.Utf8.valid r=true) (h1: ¬r<128) (h: ¬r<2048) (h': ¬r<65536):HiT (Go.Utf8.encode (r:Int)).data.toList:=by grind[enc4,Ap7,AqW]
def hiu{r:Nat} (hv:Go.Utf8.valid r=true) (h1: ¬r<128):HiT (Go.Utf8.encode (r:Int)).data.toList:=(ev (r<2048)).elim (λh=>ArD hv h1 h) λh=>(ev (r<65536)).elim (λh'=>ArJ hv h1 h h') λh'=>ArB hv h1 h h'
def AXJ (q:Int):Jm q=(Go.Utf8.encode q).data.toList:=by rw[Jm]
def Akq{r:Nat} (hv:Go.Utf8.valid r=true) (h1: ¬r<128):HiT (Jm (r:Int)):=(AXJ r).symm▸hiu hv h1
theorem Ame{q:Int} (h:0<=q) (k:q<55296\/(57343<q/\q<=1114111)):Dy N q=some true:=by
 unfold Dy;have h0:decide (0<=q)=true:=aA h;by_cases h':q<55296;·have h1:=aA h';simp only[AA,h0,h1,av]
 ·have h1:=aO h';have h2:decide (57343<q)=true:=aA fy;have h3:decide (q<=1114111)=true:=aA fy;simp only[AA,h0,h1,h2,h3,av,al,au]
def Aes{r:Nat} (hv:Go.Utf8.valid r=true):Dy N r=some true:=by unfold Go.Utf8.valid at hv;simp only[bE,az,aq]at hv;grind[Ame]
def Ajm{q:Int}{u:B8} (hu:Jm q=u){k15:Unit->Option Int} (n s9:Nat) (w:wr .i64 ((u.length:Int)-1)=(s9:Int)){c x:UInt8} (AQ:([58,47]:B8)[s9]?=some x) (hc:u[s9]?=some c) (hne:(AC x !=AC c)=true){t:B8} (ht:sub ([58,47]:B8) (wr .i64 ((s9:Int)+1)) ((([58,47]:B8).length:Nat):Int)=some t) (hb:strings_IndexByte N t (AC c)=some (-1)) (hlt:s9<2):Cg N [58,47] q k15 (n+1) (s9:Int)=some (-1):=by
 have e9:decide ((s9:Int)<((([58,47]:B8).length:Nat):Int))=true:=by simp only[aq,ag,ap];omega
 rw[Cg,ah e9];simp only[AA];rw[hu,w,Jt,Jt,AQ,aa,hc,aa,ah hne,ht,aa,hb,aa];rfl
def Acg{r:Nat}{k15:Unit->Option Int} (hr:128<=r) (hv:Go.Utf8.valid r=true) (hk:k15 ()=some (-1)) (n:Nat):Cg N [58,47] (r:Int) k15 (n+1) (wr .i64 (((Jm (r:Int)).length:Int)-1))=some (-1):=by
 obtain⟨k,c,e1,e2,e3,e4⟩:=Akq hv fy;have w:wr .i64 (((Jm (r:Int)).length:Int)-1)=((k+1:Nat):Int):=by grind[AO]
 have hc:c≠47:=λe=>by simp_all
 generalize (r:Int)=q at *;rw[w];rcases (by omega:k=0\/¬k=0)with h0|h0;·subst h0;exact Ajm (t:=[]) rfl n 1 w rfl e3 (by grind[bne,AkA]) rfl (by rw[Ij];rfl) fy
 ·rw[Cg,ae (by simp only[aq,ag,ap];omega),hk]
def irh{r:Nat} (h0:decide (0<=(r:Int))=true) (h1:decide ((r:Int)<128)=false):Dm N [58,47] (r:Int)=if((r:Int)==65533)=true then Cc N [58,47] (λ_=>some (-1)) N 0 else (Dy N r).bind λy12=>if y12=true then Cg N [58,47] r (λ_=>some (-1)) N (wr .i64 (((Jm r).length:Int)-1))else some (-1):=by generalize (r:Int)=q at *;unfold Dm;dsimp only[AA];rw[ah h0,h1,ae fB]
def AdG{r:Nat} (hr:128<=r) (hv:Go.Utf8.valid r=true) (hN:20<=N):Dm N [58,47] (r:Int)=some (-1):=by
 obtain⟨n,rfl⟩: ∃n,N=n+3:=⟨N-3,fy⟩;rw[irh (aA fy) (aO fy)];by_cases h:((r:Int)==65533)=true;·have d0:Dv ([58,47]:B8) 0=(58,1):=Qb (c:=58) rfl fB;have d1:Dv ([58,47]:B8) 1=(47,1):=Qb (c:=47) rfl fB;rw[ah h,Cc,ah fB,d0,ae fB];rw[Cc,ah fB,show(0:Nat)+((58:Nat),(1:Nat)).2=1 from rfl,d1,ae fB];rw[Cc,ae fB]
 ·rw[ae h,Aes hv,aa,ah rfl];exact Acg hr hv rfl _
def YO{l:B8} (hN:20<=N) (k24:Unit->Option Int): ∀(k i:Nat),i<=l.length->l.length-i<k->CR N l [58,47] k24 k i=if((l.drop i).any ([58,47]:B8).contains)=true then some (((i+((l.drop i).takeWhile λc=>!([58,47]:B8).contains c).length:Nat):Int))else k24 ()
 |0,i,_,h=>by omega
 | k+1,i,hi,hk=>by
  rw[CR];by_cases he:i<l.length;case neg=>rw[ae (by grind),bQ fy];rfl
  rw[ah (by grind)];have hget:l[i]?=some l[i]:=bC he;by_cases hc:l[i].toNat<128
  ·rw[Qb hget hc];dsimp only;rw[AVR hc,aa,Jc,eH he,bT,aJ];cases AQ:([58,47]:B8).contains l[i];·rw[ae fB,YO hN k24 k (i+1) fy fy];simp only[be,bh,av,ag];grind
   simp
  ·obtain⟨r,w,e1,e2,e3,e4,e5,e6,e7⟩:=Adl hget fy;rw[e1];dsimp only;rw[AdG e2 e4 hN,aa,ae fB,YO hN k24 k (i+w) fy fy];obtain⟨s1,s2⟩:=APg (set:=[58,47]) w i e6 λj hj d hd=>by
    have:=e7 j hj d hd;have h1:d≠58:=λe=>by simp_all
    have h2:d≠47:=λe=>by simp_all
    grind
   grind
theorem Aak{l:B8} (hb:l.length<=1000000) (hN:20<=N):strings_IndexAny N l [58,47]=some (ATn [58,47] l):=by
 by_cases h:l.length>8;·exact YA fB fB fB (λh'=>absurd h' fy) hb hN
 ·have hsh:strings_shouldUseASCIISet N (l.length:Int)=some (decide ((l.length:Int)>8)):=rfl;unfold strings_IndexAny ATn;rw[ae fB,ae fB];dsimp only[AA];rw[hsh,aa,ae (by grind),YO hN _ N 0 fy fy,aY];split<;>simp
end
end Go.VM
namespace Go.VM
section
variable{N:Nat}
def AV2 (k29:B8->Option (B8×Int)): ∀(l:B8) (k:Nat),l.length<k->EB N k29 k l=k29 (l.dropWhile (· ==48))
 |[],k+1,_=>by rw[EB,AA];rfl
 | x::l,k+1,h=>by
  simp only[ag]at h;rw[EB,AA,ah (by simp<;>omega),show idx (x::l) 0=some x from rfl,aa,bz];try dsimp only
  rw[show(AC x==48)=(x==48)from Xp x 48];cases x==48;·rfl
  ·rw[ah rfl,QL,aa,AV2 k29 l k fy];rfl
def AU7 (k40:Int×B8->Option (B8×Int)): ∀(n:Nat) (l:B8) (x:Int),l.length=n->n<=2^50->(∃c r,l=c::r/\(c==48)=false)-> -(2^60)<=x->x+n<=2^60->∀k:Nat,n<k->Em N k40 k x l=k40 (x+l.length-(Nv (· ==48) l).length,Nv (· ==48) l)
 |0,l,x,hl,hb,⟨c,r,e,hc⟩,h1,h3,k,hk=>by grind
 |n+1,l,x,hl,hb,hh,h1,h3,0,hk=>by omega
 | n+1,l,x,hl,hb,hh,h1,h3,k+1,hk=>by
  obtain⟨l',y,rfl⟩: ∃l' y,l=l'++[y]:=by
   have hne:l≠ []:=λe=>by grind
   exact⟨l.dropLast,l.getLast hne,(dg hne).symm⟩
  have hl':l'.length=n:=by grind
  rw[Em,AOX l' y fy,aa,WC,show(AC y==48)=(y==48)from Xp y 48];by_cases hy:(y==48)=true
  ·rw [ah hy,ah hy,AQv l' y fy,aa,AO fy];have hh': ∃c r,l'=c::r/\(c==48)=false:=by obtain⟨c,r,e,hc⟩:=hh;cases l' with | nil=>grind| cons a l'=>simp_all
   rw[AU7 k40 n l' (x+1) hl' fy hh' fy fy k fy];grind
  simp_all
def Y9 (set:B8) (hs:set.length<=1000) (k2:Unit->Option Int) (n:Int) (h:k2 ()=some n): ∀(l:B8) (i:Nat),((i+l.length:Nat):Int)=n->EE N set k2 l (i:Int)=some ((i+(l.takeWhile λc=>!set.contains c).length:Nat):Int)
 |[],i,hn=>by simp_all[EE]
 | c::l,i,hn=>by
  rw[EE,N7 _ _ hs,aa,aJ];cases hc:set.contains c;·simp only[ag]at hn;rw[ae fB,show(i:Int)+1=((i+1:Nat):Int) by simp,Y9 set hs k2 n h l (i+1) fy];simp only[bh,av,ag];grind
  ·simp
theorem KD (l set:B8) (hs:set.length<=1000) (hb:l.length<=2^60):BP N l set=some (((l.takeWhile λc=>!set.contains c).length:Nat):Int):=by unfold BP;rw[AA,AJ (by grind[AL]),show(0:Int)=((0:Nat):Int)from rfl,Y9 set hs _ _ rfl l 0 fA];simp
def Yf{p:UInt8->Bool}: ∀ {a b:B8},(∀c∈a,p c=true)->(b=[]\/∃c r,b=c::r/\p c=false)->(a++b).takeWhile p=a
 | [],b,_,hb=>by
  rcases hb with rfl|⟨c,r,rfl,hc⟩;·rfl
  ·rw[bc,aJ,hc];rfl
 | x::a,b,ha,hb=>by rw[ba,aJ,ha x fA,ah rfl,Yf (λc hc=>ha c (by grind)) hb]
section
variable{s sg W F FR P EX:B8}
def AIv{l:B8} (h:l.all DI=true): ∀c∈l,DI c=true:=by grind
def AVx{c:UInt8} (h:DI c=true):([101,69]:B8).contains c=false:=by have:=BH (f:=λn=>if(decide (48<=n)&&decide (n<=57))=true then([101,69]:B8).contains (UInt8.ofNat n)else false) (g:=λ_=>false) (by kernel_rfl) c;simp only[bo,show(decide (48<=c.toNat)&&decide (c.toNat<=57))=true from h,av]at this;omega
def AlQ{c:UInt8} (h:DI c=true):([46]:B8).contains c=false:=by grind[Vv,Qf]
def Aid (h:NumP s sg W F FR P EX) (hn:Fh s=s.length) (hb:s.length<=2^48) (hN:s.length+30<N):JP N s=some (Pw sg (W++F) (QR (2^30) P-F.length)):=by
 obtain⟨l1,l2,l3⟩:=h.len;have hne:s≠ []:=by rw[h.eq];intro e;have:=db.1 e;have:=db.1 this.2;exact h.Wn this.1
 unfold JP;refine(Av (a:=false) λk2=>?_).trans ?_;·rw[ae (by grind),Y8 s fy fy,aa,hn];simp
 try dsimp only
 rw[ae fB];have hhead: ∀k8:B8×B8->Option (B8×Int),((idx s 0).bind λx11=>if(AC x11==45)=true then (sub s 1 (s.length:Int)).bind λx12=>k8 (x12,[45])else k8 (s,[]))=k8 (W++(FR++EX),sg):=by
  intro k7;rcases h.sg with e|e
  ·have hs:s=W++(FR++EX):=by rw[h.eq,e];rfl
   cases hW:W with
   |nil=>exact absurd hW h.Wn
   | cons c W'=>
    have hc:DI c=true:=by have:=h.Wd;simp_all
    have hs2:s=c::(W'++(FR++EX)):=by grind
    rw[hs2,show idx (c::(W'++(FR++EX))) 0=some c from rfl,aa,AYt,Vv];have:=Qf hc;have: ¬c.toNat=(45:UInt8).toNat:=by grind
    simp_all
  ·have hs2:s=45::(W++(FR++EX)):=by rw[h.eq,e];rfl
   rw[hs2,show idx (45::(W++(FR++EX))) 0=some 45 from rfl,aa,ah (by rfl),QL,aa,e]
 refine(Av (a:=(W++(FR++EX),sg)) λk8=>hhead k8).trans ?_;try dsimp only
 have hWF:(W++(FR++EX)).takeWhile (λc=>!([101,69]:B8).contains c)=W++FR:=by
  rw[<-aP];refine Yf (λc hc=>?_) ?_
  ·rcases aX.1 hc with hc|hc;·rw[AVx (AIv h.Wd c hc)];rfl
   ·rcases h.fr with⟨e1,e2⟩|e;·grind
    ·rw[e]at hc;rcases aL.1 hc with rfl|hc;·rfl
     ·rw[AVx (AIv h.Fd c hc)];rfl
  ·rcases h.ex with⟨e1,e2⟩|e|e;·exact .inl e1
   ·exact .inr ⟨_,_,e,rfl⟩
   ·exact .inr ⟨_,_,e,rfl⟩
 have hlen:(W++(FR++EX)).length=(W++FR).length+EX.length:=by grind
 rw[KD _ _ fB (by grind),aa,hWF,AO (by grind),show(((W++FR).length:Nat):Int)+1=(((W++FR).length+1:Nat):Int) by simp,ABQ,aa];have hP:(W++(FR++EX)).drop ((W++FR).length+1)=P:=by rw[<-aP,ck,bQ fy,bc,bf];rcases h.ex with⟨e1,e2⟩|e|e<;>grind
 rw[hP,AkZ h.pw fy,aa];have hsub:sub (W++(FR++EX)) 0 (((W++FR).length:Nat):Int)=some (W++FR):=by rw[show(0:Int)=((0:Nat):Int)from rfl,BB _ 0 _ fy fy,<-aP];grind
 rw[hsub,aa];have hev: -(2^30:Int)<=QR (2^30) P/\QR (2^30) P<=(2^30:Int):=by unfold QR;have:min (JJ 0 (P.dropWhile ([43,45]:B8).contains)) (2^30)<=2^30:=eQ _ _;split<;>omega
 generalize QR (2^30) P=x at *;have hdot:(W++FR).takeWhile (λc=>!([46]:B8).contains c)=W:=by
  refine Yf (λc hc=>?_) ?_;·rw[AlQ (AIv h.Wd c hc)];rfl
  ·rcases h.fr with⟨e1,e2⟩|e;·exact .inl e1
   ·exact .inr ⟨_,_,e,rfl⟩
 refine(Av (a:=(x-(F.length:Int),W++F)) λk21=>?_).trans ?_
 ·rw [KD _ _ fB (by grind),aa,hdot];rcases h.fr with⟨e1,e2⟩|e;·simp_all
  ·have hfl:FR.length=F.length+1:=by grind
   have w1:wr .i64 ((W.length:Int)+1)=((W.length+1:Nat):Int):=by grind[AO]
   have s1:sub (W++FR) 0 (W.length:Int)=some W:=by rw[show(0:Int)=((0:Nat):Int)from rfl,BB _ 0 _ fy fA];simp
   have s2:sub (W++FR) ((W.length+1:Nat):Int) (((W++FR).length:Nat):Int)=some F:=by rw[BB _ _ _ (by grind) (aw _),aM (by grind),ck,bQ fy,bc,bf,e];rfl
   rw[ah (by grind),s1,aa,w1,s2,aa,AJ (by grind[AL])];grind[wr,List.length_append,AO]
 try dsimp only
 have hml:=(bN (λx:UInt8=>x==48) (l:=W++F)).length_le;rw[an]at hml;refine(Av (a:=(W++F).dropWhile (· ==48)) λk29=>AV2 k29 (W++F) N (by grind)).trans ?_;try dsimp only
 have hhd:(W++F).dropWhile (λx:UInt8=>x==48)=[]\/∃c r,(W++F).dropWhile (λx:UInt8=>x==48)=c::r/\(c==48)=false:=by
  generalize W++F=l;induction l with
  |nil=>simp
  | cons c l ih=>
   rw[bz];cases hc:(c==48);·simp_all
   grind
 have htl:=ACE (λx:UInt8=>x==48) ((W++F).dropWhile (λx:UInt8=>x==48));unfold Pw;dsimp only;generalize hm1:(W++F).dropWhile (λx:UInt8=>x==48)=m1 at *;by_cases hz:m1=[];·simp_all
 have hhd': ∃c r,m1=c::r/\(c==48)=false:=by grind
 have hsz:Nv (λx:UInt8=>x==48) m1≠ []:=by
  obtain⟨c,r,rfl,hc⟩:=hhd';have key: ∀(n:Nat) (r:B8),r.length=n->Nv (λx:UInt8=>x==48) (c::r)≠ []:=by
   intro n;induction n with
   | zero=>simp_all[Nv]
   | succ n ih=>
    intro r hr;obtain⟨r',y,rfl⟩: ∃l' y,r=l'++[y]:=by
     have hne:r≠ []:=λe=>by grind
     exact⟨r.dropLast,r.getLast hne,(dg hne).symm⟩
    rw[<-ba,WC];split;·exact ih r' (by simpa using hr)
    ·simp
  grind
 rw[ae (by grind),ae hsz];refine(Av (a:=(x-(F.length:Int)+(m1.length:Int)-((Nv (λx:UInt8=>x==48) m1).length:Int),Nv (λx:UInt8=>x==48) m1)) λk40=>AU7 k40 m1.length m1 _ rfl fy hhd' fy fy N fy).trans ?_;try dsimp only
 generalize hsh:Nv (λx:UInt8=>x==48) m1=sh at *;generalize hy:x-(F.length:Int)+(m1.length:Int)-(sh.length:Int)=y at *;have hsg:sg.length<=1:=by rcases h.sg with e|e<;>rw[e]<;>simp
 refine(Av (a:=decide (sh.length>40\/y< -400\/y>400)) λk26=>?_).trans ?_
 ·by_cases c1:(sh.length:Int)>40;·rw[ah (aA c1),aA (.inl fy)]
  ·rw[ae (by grind)];by_cases c2:y>400;·simp_all
   ·rw[ae (by grind)];congr 1;simp only[dO,decide_eq_decide];omega
 try dsimp only
 by_cases hc:sh.length>40\/y< -400\/y>400;·simp_all
 rw[ae (by grind),ae hc];have hc': ¬(sh.length>40)/\¬y< -400/\¬y>400:=⟨λh=>hc (.inl h),λh=>hc (.inr (.inl h)),λh=>hc (.inr (.inr h))⟩;have hf:=O3;unfold AnD;by_cases c1:y<0;·rw[ah (aA c1),ah c1,AJ (by grind[AL]),AJ (by grind[AL]),AO fy,AAC fy fy,Rp _ fy fy,aa];grind[AJ,AL]
 ·rw[ae (by grind),ae c1];by_cases c2:y>0;·have:=hf y.toNat;rw[ah (aA c2),ah c2,AJ (by grind[AL]),AJ (by grind[AL]),AAC fy fy,Rp _ fy fy,aa,AJ (by grind[AL])];simp
  ·rw[ae (by grind),ae c2,AJ (by grind[AL])];simp
end
end
end Go.VM
namespace Go.VM
section
variable{N:Nat}
def preB (p l:B8):Bool:=if p.length<=l.length then l.take p.length==p else false
theorem AdP (p l:B8):BZ N l p=some (preB p l):=by
 unfold BZ preB;by_cases h:p.length<=l.length;·rw[ah (by grind),ah h,show(0:Int)=((0:Nat):Int)from rfl,BB l 0 _ (bK _) h,aa];simp
 ·rw[ae (by grind),ae h]
def XD (p l:B8):strings_HasPrefix N l p=some (preB p l):=by grind[strings_HasPrefix,AdP]
def SA (p l:B8):Fe N l p=some (preB p l):=by
 unfold Fe preB;by_cases h:p.length<=l.length;·rw[ah (by grind),ah h,show(0:Int)=((0:Nat):Int)from rfl,BB l 0 _ (bK _) h,aa];simp
 ·rw[ae (by grind),ae h]
def AAQ{p l:B8} (h:preB p l=true): ∃t,l=p++t:=by
 unfold preB at h;split at h;·have:=bA.1 h;grind[List.take_append_drop]
 grind
def Cf{l:B8}{n:Nat} (h:n<=l.length):sub l (n:Int) (l.length:Int)=some (l.drop n):=by rw[BB l n l.length h (aw _),aM fA]
def APS (p l:B8):strings_TrimPrefix N l p=some (if preB p l=true then l.drop p.length else l):=by
 unfold strings_TrimPrefix EZ;rw[AdP,aa];by_cases h:preB p l=true;·obtain⟨t,rfl⟩:=AAQ h;rw[ah h,ah h,Cf fA,aa,aa]
 simp_all
def AUo (p l:B8):strings_CutPrefix N l p=some (if preB p l=true then(l.drop p.length,true)else(l,false)):=by
 unfold strings_CutPrefix Ew;rw[AdP,aa];by_cases h:preB p l=true;·obtain⟨t,rfl⟩:=AAQ h;rw[ah h,ah h,Cf fA,aa,aa]
 simp_all
def SY (l:B8):Nat->Option Nat |0=>none|n+1=>if l[n]?=some 47 then some n else SY l n
def ACQ{l:B8}{i:Nat}: ∀ {n:Nat},SY l n=some i->i<n
 |0,h=>by cases h
 | n+1,h=>by
  rw[SY]at h;split at h;·grind
  ·have:=ACQ h;omega
def b47 (c:UInt8):(AC c==47)=decide (c=47):=by have:=BH (f:=λn=>((n:Int)==47)) (g:=λn=>decide (UInt8.ofNat n=47)) (by kernel_rfl) c;simp only[bo]at this;exact this
def ADp{l:B8} (hb:l.length<=1000000): ∀(n k:Nat),n<=l.length->n<k->Ad N l 47 (λ_=>some (-1)) k ((n:Int)-1)=some (match SY l n with|some i=>(i:Int)|none=> -1)
 |n,0,_,h=>by omega
 |0,k+1,_,_=>by rw[Ad,ae fB];rfl
 | n+1,k+1,hn,hk=>by
  rw[Ad,ah fA,show((n+1:Nat):Int)-1=(n:Int) by omega,Jt,bC fy,aa,b47,SY,bC fy];by_cases h:l[n]=47;·simp_all
  ·rw[aO h,ae fB,ae (by grind),AO fy];exact ADp hb n k fy fy
def AY8 (l:B8) (hb:l.length<=1000000) (hN:l.length<N):strings_LastIndexByte N l 47=some (match SY l l.length with|some i=>(i:Int)|none=> -1):=by unfold strings_LastIndexByte De;rw[AA,AO fy,ADp hb l.length N (aw _) hN];rfl
def Kt (l:B8):B8:=match SY l l.length with|some i=>l.take i|none=>[]
def AAr{l:B8} (hb:l.length<=1000000): ∀(n k:Nat),n<=l.length->n<k->Ey N l (λ_=>some []) k ((n:Int)-1)=some (match SY l n with|some i=>l.take i|none=>[])
 |n,0,_,h=>by omega
 |0,k+1,_,_=>by rw[Ey,ae fB];rfl
 | n+1,k+1,hn,hk=>by
  rw[Ey,ah fA,show((n+1:Nat):Int)-1=(n:Int) by omega,Jt,bC fy,aa,b47,SY,bC fy];by_cases h:l[n]=47;·rw[aA h,ah rfl,ah (by rw[h]),show(0:Int)=((0:Nat):Int)from rfl,BB l 0 n (bK _) fy,aa];simp
  ·rw[aO h,ae fB,ae (by grind),AO fy];exact AAr hb n k fy fy
def AEV (l:B8) (hb:l.length<=1000000) (hN:l.length<N):Ki N l=some (Kt l):=by unfold Ki Kt;rw[AA,AO fy,AAr hb l.length N (aw _) hN]
def OB (s:B8):Nat:=1+((s.drop 1).takeWhile (· !=47)).length
def L9:Nat->B8->B8->B8 |0,_,_=>[]| k+1,s,out=>if s=[]then out else if preB [46,46,47] s=true then L9 k (s.drop 3) out else if preB [46,47] s=true then L9 k (s.drop 2) out else if preB [47,46,47] s=true then L9 k (s.drop 2) out else if s=[47,46]then L9 k [47] out else if preB [47,46,46,47] s=true then L9 k (s.drop 3) (Kt out) else if s=[47,46,46]then L9 k [47] (Kt out) else if s=[46]\/s=[46,46]then L9 k [] out else L9 k (s.drop (OB s)) (out++s.take (OB s))
def UM (l:B8):(Kt l).length<=l.length:=by grind[Kt]
def Afk{s:B8} (h:s≠ []):OB s<=s.length:=by cases s with |nil=>grind|cons c t=>grind[OB,KC,List.drop_one,List.tail_cons,List.length_cons]
def PR{p l:B8} (h:preB p l=true):p.length<=l.length:=by obtain⟨t,rfl⟩:=AAQ h;simp
theorem Lf (hN:20000<=N) (k2:B8->Option B8): ∀(k:Nat) (s out:B8),s.length<k->s.length+out.length<=16400->Al N k2 k s out=k2 (L9 k s out)
 |0,s,out,h,_=>by omega
 | k + 1,s,out,hk,hb=>by
  rw[Al,L9];by_cases h0:s=[];·simp_all
  have hpos:0<s.length:=bB.2 h0;have hso:=UM out;rw[ae (by grind),ae h0,SA,aa];by_cases h1:preB [46,46,47] s=true;·have:=PR h1;simp only[ag,ap]at this;rw[ah h1,ah h1,show(3:Int)=((3:Nat):Int)from rfl,Cf fy,aa];exact Lf hN k2 k _ out (by grind) (by grind)
  rw[ae h1,ae h1,SA,aa];by_cases h2:preB [46,47] s=true;·have:=PR h2;simp only[ag,ap]at this;rw[ah h2,ah h2,show(2:Int)=((2:Nat):Int)from rfl,Cf fy,aa];exact Lf hN k2 k _ out (by grind) (by grind)
  rw[ae h2,ae h2,SA,aa];by_cases h3:preB [47,46,47] s=true;·have:=PR h3;simp only[ag,ap]at this;rw[ah h3,ah h3,show(2:Int)=((2:Nat):Int)from rfl,Cf fy,aa];exact Lf hN k2 k _ out (by grind) (by grind)
  rw[ae h3,ae h3];by_cases h4:s=[47,46];·rw[ah (by grind),ah h4];have:=a8 List.length h4;simp only[ag,ap]at this;exact Lf hN k2 k _ out (by grind) (by grind)
  rw[ae (by grind),ae h4,SA,aa];by_cases h5:preB [47,46,46,47] s=true;·have:=PR h5;simp only[ag,ap]at this;rw[ah h5,ah h5,show(3:Int)=((3:Nat):Int)from rfl,Cf fy,aa,AEV out fy fy,aa];exact Lf hN k2 k _ _ (by grind) (by grind)
  rw[ae h5,ae h5];by_cases h6:s=[47,46,46];·rw[ah (by grind),ah h6,AEV out fy fy,aa];have:=a8 List.length h6;simp only[ag,ap]at this;exact Lf hN k2 k _ _ (by grind) (by grind)
  rw[ae (by grind),ae h6];dsimp only[AA];have hdd:(if(s==([46]:B8))=true then Al N k2 k [] out else if(s==([46,46]:B8))=true then Al N k2 k [] out else (sub s 1 (s.length:Int)).bind λx26=>(BP N x26 ([47]:B8)).bind λy27=>(sub s (wr .i64 (1+y27)) (s.length:Int)).bind λx29=>(sub s 0 (wr .i64 (1+y27))).bind λx30=>grd (AL (out.length+x30.length)) (Al N k2 k x29 (out++x30)))=k2 (if s=[46]\/s=[46,46]then L9 k [] out else L9 k (s.drop (OB s)) (out++s.take (OB s))):=by
   have hrec:=Lf hN k2 k [] out (by grind) (by grind);by_cases h7:s=[46];·simp_all
   by_cases h8:s=[46,46];·simp_all
   have hw:(λc:UInt8=>!([47]:B8).contains c)=(λc=>c !=47):=by grind
   have hsl:=Afk h0;rw[ae (by grind),ae (by grind),ae (by grind),show(1:Int)=((1:Nat):Int)from rfl,Cf fy,aa,KD _ [47] fB (by grind),aa,hw];have e:wr .i64 (((1:Nat):Int)+(((s.drop 1).takeWhile (λc=>c !=47)).length:Int))=((OB s:Nat):Int):=by grind[OB,AO]
   rw[e,Cf hsl,aa,show(0:Int)=((0:Nat):Int)from rfl,BB s 0 _ (bK _) hsl,aa,BS (by grind),aY,bP];have h1s:1<=OB s:=by grind[OB]
   exact Lf hN k2 k _ _ (by grind) (by grind)
  simp_all
def AiF (s:B8) (hN:20000<=N) (hb:s.length<=16400):Ik N s=some (L9 N s []):=by grind[Ik,AA,Lf]
end
end Go.VM
namespace Go.VM
section
variable{N:Nat}
theorem Tk (m:Nat) (l:B8):0<=(GY m l).1/\(GY m l).1<=m:=by grind[GY]
def SV (l:B8):Int×Int:=if((GY 65535 l).2 !=0||(GY 65535 l).1==0)=true then(0,51)else((GY 65535 l).1,0)
def Adt (l:B8) (hb:l.length<=2^60):Rc N l=some (SV l):=by have:=Tk 65535 l;unfold Rc SV;rw[show(65535:Int)=((65535:Nat):Int)from rfl,ACi fB l hb,aa];dsimp only[AA];rw[AO fy];cases (GY 65535 l).2 !=0<;>cases (GY 65535 l).1==0<;>rfl
def Ad0 (l:B8) (hb:l.length<=2^60):QH N l=some (SV l):=by have:=Tk 65535 l;unfold QH SV;rw[show(65535:Int)=((65535:Nat):Int)from rfl,ABU fB fB l hb,aa];dsimp only[AA];rw[AO fy];cases (GY 65535 l).2 !=0<;>cases (GY 65535 l).1==0<;>rfl
def hpS (l:B8):ApiHostPort×Int:=if((JW (AR 58 l).1).2 !=0)=true then(⟨[],0⟩,(JW (AR 58 l).1).2) else if(AR 58 l).2.2=true then(if((SV (AR 58 l).2.1).2 !=0)=true then(⟨[],0⟩,(SV (AR 58 l).2.1).2)else(⟨(JW (AR 58 l).1).1,if((SV (AR 58 l).2.1).1==443)=true then 0 else(SV (AR 58 l).2.1).1⟩,0)) else(⟨(JW (AR 58 l).1).1,0⟩,0)
theorem R3{c:UInt8}: ∀l:B8,l.contains c=false->l.takeWhile (· !=c)=l
 |[],_=>rfl
 | x::t,h=>by
  rw[bb,du]at h;have e:(x !=c)=true:=by simp only[dL,dU];grind
  rw[aJ,e,ah rfl,R3 t h.2]
def AgQ (l:B8) (hb:l.length<=1000000):M8 N l=some (hpS l):=by
 have hw:(λc:UInt8=>!([58]:B8).contains c)=(λc=>c !=58):=by grind
 have hle:=KC (· !=(58:UInt8)) l;have h0:sub l 0 ((l.takeWhile (· !=(58:UInt8))).length:Int)=some (l.takeWhile (· !=(58:UInt8))):=by have:=BB l 0 _ (bK _) hle;rw[aY,bP,IB]at this;omega
 unfold M8 hpS;rw[KD l [58] fB fy,aa,hw,h0,aa,ABB,aa];unfold AR;cases hc:l.contains 58
 ·have hall:l.takeWhile (· !=(58:UInt8))=l:=by grind[R3]
  simp only[al,au];rw[hall];by_cases h:((JW l).2 !=0)=true<;>simp_all[JW]
 ·have hlt:=Mf hc;have hd:l.drop ((l.takeWhile (· !=(58:UInt8))).length+1)=(l.dropWhile (· !=(58:UInt8))).drop 1:=by grind[List.drop_drop,List.takeWhile_append_dropWhile,List.drop_left]
  simp only[av];by_cases h:((JW (l.takeWhile (· !=(58:UInt8)))).2 !=0)=true;·grind
  ·rw[ae h,ae h,ae (by grind)];rw[show wr .i64 (((l.takeWhile (· !=(58:UInt8))).length:Int)+1)=(((l.takeWhile (· !=(58:UInt8))).length+1:Nat):Int) by grind[AO],BB l _ _ fy fy,aa,hd,aM (by have:=a8 List.length hd;grind),Ad0 _ (by grind[List.length_drop,List.dropWhile_sublist]),aa];dsimp only[AA];by_cases hp:((SV ((l.dropWhile (· !=(58:UInt8))).drop 1)).2 !=0)=true;·simp_all
   ·rw[ae hp,ae hp];split<;>rfl
end
end Go.VM
namespace Go.VM
section
variable{N:Nat}
def AR1{out:B8}{bq:List Int} (h:List.take out.length bq=List.map AC out):List.take (Kt out).length bq=List.map AC (Kt out):=by
 have hle:=UM out;have e:List.take (Kt out).length (List.take out.length bq)=List.take (Kt out).length bq:=by rw[List.take_take,cL hle]
 rw[<-e,h];unfold Kt;split;·rename_i i hi;have:=ACQ hi;rw[bG,cL fy,ft]
 ·simp
def AdZ (out:B8) (v:Int) (hv:v=(match SY out out.length with|some i=>(i:Int)|none=> -1)):(if v>0 then v else 0).toNat=(Kt out).length/\0<=(if v>0 then v else 0)/\(if v>0 then v else 0)<=(out.length:Int):=by subst hv;unfold Kt;cases h:SY out out.length with |none=>simp| some i=>have:=ACQ h;simp only[bG];split<;>omega
theorem M4 (hN:20000<=N): ∀(k:Nat) (s out:B8) (bq:List Int),s.length<k->s.length+out.length<=16380->out.length<=bq.length->List.take out.length bq=List.map AC out->Ap N k s out.length bq=some (L9 k s out)
 |0,s,out,bq,h,_,_,_=>by omega
 | k + 1,s,out,bq,hk,hb,hl,ht=>by
  rw[Ap,L9];have hchr:List.map Gu (List.take out.length bq)=out:=by rw[ht,LG]
  have hso:=UM out;by_cases h0:s=[];·rw[ah (by grind),ah h0,AJ ⟨hl,by grind[AL]⟩,hchr]
  have hpos:0<s.length:=bB.2 h0;rw[ae (by grind),ae h0,XD,aa];by_cases h1:preB [46,46,47] s=true;·have:=PR h1;simp only[ag,ap]at this;rw[ah h1,ah h1,show(3:Int)=((3:Nat):Int)from rfl,Cf fy,aa];exact M4 hN k _ out bq (by grind) (by grind) hl ht
  rw[ae h1,ae h1,XD,aa];by_cases h2:preB [46,47] s=true;·have:=PR h2;simp only[ag,ap]at this;rw[ah h2,ah h2,show(2:Int)=((2:Nat):Int)from rfl,Cf fy,aa];exact M4 hN k _ out bq (by grind) (by grind) hl ht
  rw[ae h2,ae h2,XD,aa];by_cases h3:preB [47,46,47] s=true;·have:=PR h3;simp only[ag,ap]at this;rw[ah h3,ah h3,show(2:Int)=((2:Nat):Int)from rfl,Cf fy,aa];exact M4 hN k _ out bq (by grind) (by grind) hl ht
  rw[ae h3,ae h3];by_cases h4:s=[47,46];·rw[ah (by grind),ah h4];have:=a8 List.length h4;simp only[ag,ap]at this;exact M4 hN k _ out bq (by grind) (by grind) hl ht
  rw[ae (by grind),ae h4];dsimp only[AA];rw[XD,aa];have hcut: ∀s2:B8,s2.length<k->s2.length+out.length<=16380->∀(v:Int),v=(match SY out out.length with|some i=>(i:Int)|none=> -1)->grd (0<=(if v>0 then v else 0)/\(if v>0 then v else 0)<=(out.length:Int)) (Ap N k s2 ((if v>0 then v else 0).toNat) bq)=some (L9 k s2 (Kt out)):=by intro s2 hs2 hs3 v hv;obtain⟨e1,e2,e3⟩:=AdZ out v hv;rw[AJ ⟨e2,e3⟩,e1];exact M4 hN k s2 (Kt out) bq hs2 fy fy (AR1 ht)
  have htail: ∀s2:B8,s2.length<k->s2.length+out.length<=16380->(grd (out.length<=bq.length/\AL out.length) ((strings_LastIndexByte N (List.map Gu (List.take out.length bq)) 47).bind λy20=>grd (0<=(if y20>0 then y20 else 0)/\(if y20>0 then y20 else 0)<=(out.length:Int)) (Ap N k s2 ((if y20>0 then y20 else 0).toNat) bq)))=some (L9 k s2 (Kt out)):=by intro s2 hs2 hs3;rw[AJ ⟨hl,by grind[AL]⟩,hchr,AY8 out fy fy,aa];exact hcut s2 hs2 hs3 _ rfl
  by_cases h5:preB [47,46,46,47] s=true
  ·obtain⟨t,rfl⟩:=AAQ h5;have e3:([47,46,46,47]++t:B8).drop 3=47::t:=rfl;have ep:preB [47] (47::t)=true:=by simp_all[preB]
   simp only[an,ag,ap]at hk hb;rw[ah h5,ah h5,ah rfl,show(3:Int)=((3:Nat):Int)from rfl,Cf fA,aa,e3,APS,ah ep,aa,BS fC];exact htail (47::t) (by grind) (by grind)
  rw[ae h5,ae h5];by_cases h6:s=[47,46,46];·subst h6;simp only[ag,ap]at hk hb;rw[ah (by rfl),ah rfl,show(3:Int)=((3:Nat):Int)from rfl,Cf fA,aa,APS,ae fB,aa,BS fA];exact htail [47] (by grind) (by grind)
  rw[ae (by grind),ae h6];have hdd:(if(s==([46]:B8))=true then Ap N k [] out.length bq else if(s==([46,46]:B8))=true then Ap N k [] out.length bq else (sub s 1 (s.length:Int)).bind λx26=>(strings_IndexByte N x26 47).bind λy27=>if((wr .i64 (1+y27))==0)=true then (sub s 0 (s.length:Int)).bind λx33=>grd (out.length<=bq.length/\CW (out.length+x33.length) 1) ((sub s (s.length:Int) (s.length:Int)).bind λx35=>Ap N k x35 (out.length+x33.length) (List.take out.length bq++List.map AC x33)) else (sub s 0 (wr .i64 (1+y27))).bind λx33=>grd (out.length<=bq.length/\CW (out.length+x33.length) 1) ((sub s (wr .i64 (1+y27)) (s.length:Int)).bind λx35=>Ap N k x35 (out.length+x33.length) (List.take out.length bq++List.map AC x33)))=some (if s=[46]\/s=[46,46]then L9 k [] out else L9 k (s.drop (OB s)) (out++s.take (OB s))):=by
   have hrec:=M4 hN k [] out bq (by grind) (by grind) hl ht;by_cases h7:s=[46];·simp_all
   by_cases h8:s=[46,46];·simp_all
   have hsl:=Afk h0;have h1s:1<=OB s:=by grind[OB]
   rw[ae (by grind),ae (by grind),ae (by grind),show(1:Int)=((1:Nat):Int)from rfl,Cf fy,aa,show(47:Int)=AC 47 from rfl,Ij,aa,ML];have fin:((sub s 0 ((OB s:Nat):Int)).bind λx33=>grd (out.length<=bq.length/\CW (out.length+x33.length) 1) ((sub s ((OB s:Nat):Int) (s.length:Int)).bind λx35=>Ap N k x35 (out.length+x33.length) (List.take out.length bq++List.map AC x33)))=some (L9 k (s.drop (OB s)) (out++s.take (OB s))):=by rw[show(0:Int)=((0:Nat):Int)from rfl,BB s 0 _ (bK _) hsl,aa,AJ ⟨hl,OO (by grind)⟩,Cf hsl,aa,aY,bP,ht];have hlen:out.length+(List.take (OB s) s).length=(out++List.take (OB s) s).length:=fA;rw[hlen];exact M4 hN k _ (out++s.take (OB s)) _ (by grind) (by grind) fA (by grind[List.take_of_length_le])
   by_cases hc:(s.drop 1).contains 47=true
   ·have e:wr .i64 (((1:Nat):Int)+(((s.drop 1).takeWhile (· !=47)).length:Int))=((OB s:Nat):Int):=by unfold OB at hsl⊢;rw[AO fy];omega
    rw[ah hc,e,ae (by grind)];omega
   ·rw[ae hc,ah (by rfl)];have hc':(s.drop 1).contains 47=false:=by grind
    have e:OB s=s.length:=by grind[R3,OB,List.length_drop]
    simp_all
  simp_all
def Aj4 (s:B8) (hN:20000<=N) (hb:s.length<=16380):Io N s=some (L9 N s []):=by unfold Io;rw[AJ (by grind[Zj])];have:=M4 hN N s [] (List.replicate (0:Int).toNat 0) fy fy fA fA;grind
theorem PH: ∀(k:Nat) (s out:B8),(L9 k s out).length<=s.length+out.length
 |0,s,out=>by simp[L9]
 | k+1,s,out=>by
  have hso:=UM out;rw[L9];split;·omega
  split;·have:=PH k (s.drop 3) out;grind
  split;·have:=PH k (s.drop 2) out;grind
  split;·have:=PH k (s.drop 2) out;grind
  split;·rename_i h;have:=PH k [47] out;grind
  split;·have:=PH k (s.drop 3) (Kt out);grind
  split;·rename_i h;have:=PH k [47] (Kt out);grind
  split;·have:=PH k [] out;grind
  ·have:=PH k (s.drop (OB s)) (out++s.take (OB s));grind
end
end Go.VM
