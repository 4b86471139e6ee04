import Derived.Test.YtfcejbjjeaaleaaGreatDoorL4
set_option linter.defProp false
set_option linter.unusedVariables false
set_option linter.unusedSimpArgs false
namespace Go.VM
section
variable{N:Nat}
def Rj{l:B8}{i:Nat}{c:UInt8} (h:l[i]?=some c) (hc:c.toNat<128):Dx l i=(c.toNat,1):=by
 have hi:i<l.length:=by grind
 have e:l[i]=c:=by grind
 unfold Dx;have hs:i<(⟨l.toArray⟩:ByteArray).size:=hi;have AR:((⟨l.toArray⟩:ByteArray)[i]'hs)=c:=e;grind[decode_ascii]
def AWu{set:B8}{c:UInt8} (hc:c.toNat<128):Dt N set ((c.toNat:Nat):Int)=some (Go.Lib.indexByte set c):=by
 unfold Dt;dsimp only[AA];have e:wr .u8 ((c.toNat:Nat):Int)=AC c:=by rw[AGM fG];rfl
 rw[ah fH,ah (by grind),e,KY];rfl
def AUm (set l:B8):Int:=if(l.any set.contains)=true then(((l.takeWhile λc=>!set.contains c).length:Nat):Int)else-1
def AGC{as:List Bool}{set:B8} (hs:AGS as set) (k17:List Bool->Option Int): ∀(l:B8) (i:Int),Dh N k17 l i as=if(l.any set.contains)=true then some (i+(((l.takeWhile λc=>!set.contains c).length:Nat):Int))else k17 as
 |[],i=>by grind[Dh]
 | c::l,i=>by
  rw[Dh,AAj hs,aa];dsimp only;cases h:set.contains c;·rw[ae fI,AGC hs k17 l (i+1)];simp only[bK,h,be,aN,aL,av,ag];grind
  simp_all
def AGL{set l:B8} (k24:Unit->Option Int): ∀(t pre:B8) (k:Nat),l=pre++t->t.length<k->(∀c,c∈(t.takeWhile λc=>!set.contains c)->c.toNat<128)->(∀c,c∈set->c.toNat<128)->CY N l set k24 k pre.length=if(t.any set.contains)=true then some (((pre.length+(t.takeWhile λc=>!set.contains c).length:Nat):Int))else k24 ()
 |_,_,0,_,h,_,_=>by omega
 | [],pre,k+1,h,_,_,_=>by simp_all[CY]
 | c::t,pre,k+1,h,hk,ha,hset=>by
  simp only[ag]at hk;have hget:l[pre.length]?=some c:=by grind
  have hc:c.toNat<128:=by grind[AR,List.takeWhile_cons]
  rw[CY,ah (by grind),Rj hget hc];dsimp only;rw[AWu hc,aa,Ke];cases AR:set.contains c;·rw[ae fI];have:=AGL (l:=l) (set:=set) k24 t (pre++[c]) k (by grind) fG (λx hm=>ha x (by simp_all)) hset;rw[an,fp]at this;rw[this];simp only[bK,AR,be,aN,aL,av,ag];grind
  simp_all
theorem Zm{set l:B8} (h2:2<=set.length) (hs:set.length<=1000) (hset: ∀c,c∈set->c.toNat<128) (ha:l.length<=8->∀c,c∈(l.takeWhile λc=>!set.contains c)->c.toNat<128) (hb:l.length<=1000000) (hN:20<=N):strings_IndexAny N l set=some (AUm set l):=by
 unfold strings_IndexAny AUm;have hne:set≠ []:=λe=>by grind
 have hsh:strings_shouldUseASCIISet N (l.length:Int)=some (decide ((l.length:Int)>8)):=rfl;obtain⟨as,e1,e2⟩:=APj (N:=N) set hset hs;rw[ae (by grind),ae (by grind)];dsimp only[AA];rw[hsh,aa];by_cases h:l.length>8;·rw[ah (by grind),e1,aa,AJ YG];dsimp only;rw[AJ e2.1,ah rfl,BV fG,AGC e2];split<;>simp
 ·rw[ae (by grind),show(0:Nat)=([]:B8).length from rfl,AGL (l:=l) _ l [] N rfl fG (ha fG) hset];split<;>simp
def AV7{set l:B8} (h2:2<=set.length) (hs:set.length<=1000) (hset: ∀c,c∈set->c.toNat<128) (ha:l.length<=8->∀c,c∈(l.takeWhile λc=>!set.contains c)->c.toNat<128) (hb:l.length<=1000000) (hN:20<=N):strings_ContainsAny N l set=some (l.any set.contains):=by unfold strings_ContainsAny;rw[Zm h2 hs hset ha hb hN,aa];unfold AUm;cases l.any set.contains<;>simp
end
end Go.VM
namespace Go.VM
section
variable{N:Nat}
def Arh (l:B8) (i:Nat):(⟨l.toArray⟩:ByteArray).get! i=l.getD i 0:=by change (l.toArray[i]!)=_;rw[List.getElem!_toArray,List.getElem!_eq_getElem?_getD,List.getD_eq_getElem?_getD];rfl
theorem Ag3{l:B8}{i:Nat}{c:UInt8} (h:l[i]?=some c) (hc:128<=c.toNat):∃r w,Dx l i=(r,w)/\128<=r/\r<=1114111/\(Go.Utf8.valid r=true)/\1<=w/\i+w<=l.length/\∀j,j<w->∀d,l[i+j]?=some d->128<=d.toNat:=by
 have hi:i<l.length:=by grind
 have h0:l.getD i 0=c:=by grind
 have one: ∀j,j<1->∀d,l[i+j]?=some d->128<=d.toNat:=λj hj d hd=>by simp_all
 have bad: ∃r w,(Go.Utf8.runeError,1)=(r,w)/\128<=r/\r<=1114111/\(Go.Utf8.valid r=true)/\1<=w/\i+w<=l.length/\∀j,j<w->∀d,l[i+j]?=some d->128<=d.toNat:=⟨_,_,rfl,fI,fI,fI,aw 1,fG,one⟩;have hsz:(⟨l.toArray⟩:ByteArray).size=l.length:=rfl;unfold Dx Go.Utf8.decode;simp only[Arh,hsz,bB,h0];have hb:=UInt8.toNat_lt c;rw[ae fG];split
 ·rename_i h2;simp only[az,bE,au]at h2;split
  ·rename_i h3;refine⟨_,_,rfl,fG,fG,?_,fG,fG,λj hj=>?_⟩;·unfold Go.Utf8.valid;simp only[bM,az,au];omega
   ·rcases (by omega:j=0\/j=1)with rfl|rfl;·grind
    grind
  omega
 split
 ·rename_i h2;simp only[az,bE,au]at h2;split
  ·rename_i h3;simp only[az,ge_iff_le,au]at h3;refine⟨_,_,rfl,fG,fG,h3.2,fG,fG,λj hj=>?_⟩;rcases (by omega:j=0\/j=1\/j=2)with rfl|rfl|rfl;·grind
   ·grind
   grind
  omega
 split
 ·rename_i h2;simp only[az,bE,au]at h2;split
  ·rename_i h3;simp only[az,ge_iff_le,au]at h3;have hv:=h3.2;unfold Go.Utf8.valid at hv;simp only[bM,az,au]at hv;refine⟨_,_,rfl,fG,fG,h3.2,fG,fG,λj hj=>?_⟩;rcases (by omega:j=0\/j=1\/j=2\/j=3)with rfl|rfl|rfl|rfl;·grind
   ·grind
   ·grind
   grind
  omega
 omega
def AQi{l:B8}{set:B8}: ∀(w i:Nat),i+w<=l.length->(∀j,j<w->∀d,l[i+j]?=some d->set.contains d=false)->(l.drop i).any set.contains=(l.drop (i+w)).any set.contains/\((l.drop i).takeWhile λc=>!set.contains c).length=w+((l.drop (i+w)).takeWhile λc=>!set.contains c).length |0,i,_,_=>by simp| w+1,i,h,hs=>by have hi:i<l.length:=fG;have h0:=hs 0 fG l[i] fH;obtain⟨e1,e2⟩:=AQi (l:=l) (set:=set) w (i+1) fG λj hj d hd=>hs (j+1) fG d (by grind);rw[eP hi,bK,h0,be,e1,aN,h0];simp only[aL,av,ag];rw[e2,show i+1+w=i+(w+1) by omega];exact⟨rfl,fG⟩
def AUZ{r:Nat} (hv:Go.Utf8.valid r=true):Go.Utf8.encode (r:Int)=(if r<128 then⟨#[UInt8.ofNat r]⟩else if r<2048 then⟨#[UInt8.ofNat (0xC0+r / 64),UInt8.ofNat (0x80+r % 64)]⟩ else if r<65536 then⟨#[UInt8.ofNat (0xE0+r / 4096),UInt8.ofNat (0x80+r / 64 % 64),UInt8.ofNat (0x80+r % 64)]⟩ else⟨#[UInt8.ofNat (0xF0+r / 262144),UInt8.ofNat (0x80+r / 4096 % 64),UInt8.ofNat (0x80+r / 64 % 64),UInt8.ofNat (0x80+r % 64)]⟩:ByteArray):=by
 have e:(if Go.Utf8.valid r=true then(r:Int).toNat else Go.Utf8.runeError)=r:=by simp_all
 simp_all[Go.Utf8.encode]
def Aif{n:Nat} (h:n<64):128<=(UInt8.ofNat (0x80+n)).toNat:=by grind[UInt8.toNat_ofNat']
theorem enc2{r:Nat} (hv:Go.Utf8.valid r=true) (h1: ¬r<128) (h2:r<2048): ∃a b,Go.Utf8.encode (r:Int)=⟨#[a,b]⟩/\128<=b.toNat:=by rw[AUZ hv,ae h1,ah h2];exact⟨_,_,rfl,Aif (dz _ fG)⟩
theorem enc3{r:Nat} (hv:Go.Utf8.valid r=true) (h1: ¬r<128) (h2: ¬r<2048) (h3:r<65536): ∃a b c,Go.Utf8.encode (r:Int)=⟨#[a,b,c]⟩/\128<=c.toNat:=by rw[AUZ hv,ae h1,ae h2,ah h3];exact⟨_,_,_,rfl,Aif (dz _ fG)⟩
theorem enc4{r:Nat} (hv:Go.Utf8.valid r=true) (h1: ¬r<128) (h2: ¬r<2048) (h3: ¬r<65536): ∃a b c d,Go.Utf8.encode (r:Int)=⟨#[a,b,c,d]⟩/\128<=d.toNat:=by rw[AUZ hv,ae h1,ae h2,ae h3];exact⟨_,_,_,_,rfl,Aif (dz _ fG)⟩
theorem AsE{a b:UInt8}:(⟨#[a,b]⟩:ByteArray).data.toList=[a,b]:=rfl
theorem Ar8{a b c:UInt8}:(⟨#[a,b,c]⟩:ByteArray).data.toList=[a,b,c]:=rfl
theorem As9{a b c d:UInt8}:(⟨#[a,b,c,d]⟩:ByteArray).data.toList=[a,b,c,d]:=rfl
def HiT (u:B8):Prop:= ∃k c,u.length=k+2/\k<=2/\u[k+1]?=some c/\128<=c.toNat
theorem AuI{a b:UInt8} (h:128<=b.toNat):HiT [a,b]:=⟨0,b,rfl,fG,rfl,h⟩
theorem At0{a b c:UInt8} (h:128<=c.toNat):HiT [a,b,c]:=⟨1,c,rfl,fG,rfl,h⟩
theorem Aty{a b c d:UInt8} (h:128<=d.toNat):HiT [a,b,c,d]:=⟨2,d,rfl,fG,rfl,h⟩
def AuD{r:Nat} (hv:Go.Utf8.valid r=true) (h1: ¬r<128) (h:r<2048):HiT (Go.Utf8.encode (r:Int)).data.toList:=by grind[enc2,AsE,AuI]
def Ati{r:Nat} (hv:Go.Utf8.valid r=true) (h1: ¬r<128) (h: ¬r<2048) (h':r<65536):HiT (Go.Utf8.encode (r:Int)).data.toList:=by grind[enc3,Ar8,At0]
def AuK{r:Nat} (hv:Go.Utf8.valid r=true) (h1: ¬r<128) (h: ¬r<2048) (h': ¬r<65536):HiT (Go.Utf8.encode (r:Int)).data.toList:=by grind[enc4,As9,Aty]
def hiu{r:Nat} (hv:Go.Utf8.valid r=true) (h1: ¬r<128):HiT (Go.Utf8.encode (r:Int)).data.toList:=(Classical.em (r<2048)).elim (λh=>AuD hv h1 h) λh=>(Classical.em (r<65536)).elim (λh'=>Ati hv h1 h h') λh'=>AuK hv h1 h h'
def AcO (q:Int):J7 q=(Go.Utf8.encode q).data.toList:=by rw[J7]
def Akl{r:Nat} (hv:Go.Utf8.valid r=true) (h1: ¬r<128):HiT (J7 (r:Int)):=(AcO r).symm▸hiu hv h1
theorem ArY{q:Int} (h:0<=q) (k:q<55296\/(57343<q/\q<=1114111)):D9 N q=some true:=by
 unfold D9;have h0:decide (0<=q)=true:=aA h;by_cases h':q<55296;·have h1:=aA h';simp only[AA,h0,h1,av]
 ·have h1:=aO h';have h2:decide (57343<q)=true:=aA fG;have h3:decide (q<=1114111)=true:=aA fG;simp only[AA,h0,h1,h2,h3,av,aj,aq]
def Aiy{r:Nat} (hv:Go.Utf8.valid r=true):D9 N r=some true:=by unfold Go.Utf8.valid at hv;simp only[bM,az,au]at hv;grind[ArY]
def AlH{q:Int}{u:B8} (hu:J7 q=u){k15:Unit->Option Int} (n s9:Nat) (w:wr .i64 ((u.length:Int)-1)=(s9:Int)){c x:UInt8} (AR:([58,47]:B8)[s9]?=some x) (hc:u[s9]?=some c) (hne:(AC x !=AC c)=true){t:B8} (ht:sub ([58,47]:B8) (wr .i64 ((s9:Int)+1)) ((([58,47]:B8).length:Nat):Int)=some t) (hb:strings_IndexByte N t (AC c)=some (-1)) (hlt:s9<2):Ch N [58,47] q k15 (n+1) (s9:Int)=some (-1):=by
 have e9:decide ((s9:Int)<((([58,47]:B8).length:Nat):Int))=true:=by simp only[au,ag,ap];omega
 rw[Ch,ah e9];simp only[AA];rw[hu,w,Ji,Ji,AR,aa,hc,aa,ah hne,ht,aa,hb,aa];rfl
def Af2{r:Nat}{k15:Unit->Option Int} (hr:128<=r) (hv:Go.Utf8.valid r=true) (hk:k15 ()=some (-1)) (n:Nat):Ch N [58,47] (r:Int) k15 (n+1) (wr .i64 (((J7 (r:Int)).length:Int)-1))=some (-1):=by
 obtain⟨k,c,e1,e2,e3,e4⟩:=Akl hv fG;have w:wr .i64 (((J7 (r:Int)).length:Int)-1)=((k+1:Nat):Int):=by grind[AO]
 have hc:c≠47:=λe=>by simp_all
 generalize (r:Int)=q at *;rw[w];rcases (by omega:k=0\/¬k=0)with h0|h0;·subst h0;exact AlH (t:=[]) rfl n 1 w rfl e3 (by grind[bne,Amt]) rfl (by rw[KY];rfl) fG
 ·rw[Ch,ae (by simp only[au,ag,ap];omega),hk]
def irh{r:Nat} (h0:decide (0<=(r:Int))=true) (h1:decide ((r:Int)<128)=false):Dt N [58,47] (r:Int)=if((r:Int)==65533)=true then Cf N [58,47] (λ_=>some (-1)) N 0 else (D9 N r).bind λy12=>if y12=true then Ch N [58,47] r (λ_=>some (-1)) N (wr .i64 (((J7 r).length:Int)-1))else some (-1):=by generalize (r:Int)=q at *;unfold Dt;dsimp only[AA];rw[ah h0,h1,ae fI]
def Ait{r:Nat} (hr:128<=r) (hv:Go.Utf8.valid r=true) (hN:20<=N):Dt N [58,47] (r:Int)=some (-1):=by
 obtain⟨n,rfl⟩: ∃n,N=n+3:=⟨N-3,fG⟩;rw[irh (aA fG) (aO fG)];by_cases h:((r:Int)==65533)=true;·have d0:Dx ([58,47]:B8) 0=(58,1):=Rj (c:=58) rfl fI;have d1:Dx ([58,47]:B8) 1=(47,1):=Rj (c:=47) rfl fI;rw[ah h,Cf,ah fI,d0,ae fI];rw[Cf,ah fI,show(0:Nat)+((58:Nat),(1:Nat)).2=1 from rfl,d1,ae fI];rw[Cf,ae fI]
 ·rw[ae h,Aiy hv,aa,ah rfl];exact Af2 hr hv rfl _
def Zg{l:B8} (hN:20<=N) (k24:Unit->Option Int): ∀(k i:Nat),i<=l.length->l.length-i<k->CY N l [58,47] k24 k i=if((l.drop i).any ([58,47]:B8).contains)=true then some (((i+((l.drop i).takeWhile λc=>!([58,47]:B8).contains c).length:Nat):Int))else k24 ()
 |0,i,_,h=>by omega
 | k+1,i,hi,hk=>by
  rw[CY];by_cases he:i<l.length;case neg=>rw[ae (by grind),bW fG];rfl
  rw[ah (by grind)];have hget:l[i]?=some l[i]:=bF he;by_cases hc:l[i].toNat<128
  ·rw[Rj hget hc];dsimp only;rw[AWu hc,aa,Ke,eP he,bK,aN];cases AR:([58,47]:B8).contains l[i];·rw[ae fI,Zg hN k24 k (i+1) fG fG];simp only[be,aL,av,ag];grind
   simp
  ·obtain⟨r,w,e1,e2,e3,e4,e5,e6,e7⟩:=Ag3 hget fG;rw[e1];dsimp only;rw[Ait e2 e4 hN,aa,ae fI,Zg hN k24 k (i+w) fG fG];obtain⟨s1,s2⟩:=AQi (set:=[58,47]) w i e6 λj hj d hd=>by
    have:=e7 j hj d hd;have h1:d≠58:=λe=>by simp_all
    have h2:d≠47:=λe=>by simp_all
    grind
   grind
theorem Aa7{l:B8} (hb:l.length<=1000000) (hN:20<=N):strings_IndexAny N l [58,47]=some (AUm [58,47] l):=by
 by_cases h:l.length>8;·exact Zm fI fI fI (λh'=>absurd h' fG) hb hN
 ·have hsh:strings_shouldUseASCIISet N (l.length:Int)=some (decide ((l.length:Int)>8)):=rfl;unfold strings_IndexAny AUm;rw[ae fI,ae fI];dsimp only[AA];rw[hsh,aa,ae (by grind),Zg hN _ N 0 fG fG,ba];split<;>simp
end
end Go.VM
namespace Go.VM
section
variable{N:Nat}
def AXu (k29:B8->Option (B8×Int)): ∀(l:B8) (k:Nat),l.length<k->EM N k29 k l=k29 (l.dropWhile (· ==48))
 |[],k+1,_=>by rw[EM,AA];rfl
 | x::l,k+1,h=>by
  simp only[ag]at h;rw[EM,AA,ah (by simp<;>omega),show idx (x::l) 0=some x from rfl,aa,bI];try dsimp only
  rw[show(AC x==48)=(x==48)from Yd x 48];cases x==48;·rfl
  ·rw[ah rfl,Qf,aa,AXu k29 l k fG];rfl
def AXD (k40:Int×B8->Option (B8×Int)): ∀(n:Nat) (l:B8) (x:Int),l.length=n->n<=2^50->(∃c r,l=c::r/\(c==48)=false)-> -(2^60)<=x->x+n<=2^60->∀k:Nat,n<k->Er N k40 k x l=k40 (x+l.length-(Oe (· ==48) l).length,Oe (· ==48) l)
 |0,l,x,hl,hb,⟨c,r,e,hc⟩,h1,h3,k,hk=>by grind
 |n+1,l,x,hl,hb,hh,h1,h3,0,hk=>by omega
 | n+1,l,x,hl,hb,hh,h1,h3,k+1,hk=>by
  obtain⟨l',y,rfl⟩: ∃l' y,l=l'++[y]:=by
   have hne:l≠ []:=λe=>by grind
   exact⟨l.dropLast,l.getLast hne,(du hne).symm⟩
  have hl':l'.length=n:=by grind
  rw[Er,AQH l' y fG,aa,WV,show(AC y==48)=(y==48)from Yd y 48];by_cases hy:(y==48)=true
  ·rw [ah hy,ah hy,AQb l' y fG,aa,AO fG];have hh': ∃c r,l'=c::r/\(c==48)=false:=by obtain⟨c,r,e,hc⟩:=hh;cases l' with | nil=>grind| cons a l'=>simp_all
   rw[AXD k40 n l' (x+1) hl' fG hh' fG fG k fG];grind
  simp_all
def AAN (set:B8) (hs:set.length<=1000) (k2:Unit->Option Int) (n:Int) (h:k2 ()=some n): ∀(l:B8) (i:Nat),((i+l.length:Nat):Int)=n->EL N set k2 l (i:Int)=some ((i+(l.takeWhile λc=>!set.contains c).length:Nat):Int)
 |[],i,hn=>by simp_all[EL]
 | c::l,i,hn=>by
  rw[EL,Po _ _ hs,aa,aN];cases hc:set.contains c;·simp only[ag]at hn;rw[ae fI,show(i:Int)+1=((i+1:Nat):Int) by simp,AAN set hs k2 n h l (i+1) fG];simp only[aL,av,ag];grind
  ·simp
theorem LA (l set:B8) (hs:set.length<=1000) (hb:l.length<=2^60):Be N l set=some (((l.takeWhile λc=>!set.contains c).length:Nat):Int):=by unfold Be;rw[AA,AJ (by grind[AL]),show(0:Int)=((0:Nat):Int)from rfl,AAN set hs _ _ rfl l 0 fH];simp
def Yz{p:UInt8->Bool}: ∀ {a b:B8},(∀c∈a,p c=true)->(b=[]\/∃c r,b=c::r/\p c=false)->(a++b).takeWhile p=a
 | [],b,_,hb=>by
  rcases hb with rfl|⟨c,r,rfl,hc⟩;·rfl
  ·rw[aT,aN,hc];rfl
 | x::a,b,ha,hb=>by rw[bf,aN,ha x fH,ah rfl,Yz (λc hc=>ha c (by grind)) hb]
section
variable{s sg W F FR P EX:B8}
def AJU{l:B8} (h:l.all DC=true): ∀c∈l,DC c=true:=by grind
def AX8{c:UInt8} (h:DC c=true):([101,69]:B8).contains c=false:=by have:=BJ (f:=λn=>if(decide (48<=n)&&decide (n<=57))=true then([101,69]:B8).contains (UInt8.ofNat n)else false) (g:=λ_=>false) (by kernel_rfl) c;simp only[bv,show(decide (48<=c.toNat)&&decide (c.toNat<=57))=true from h,av]at this;omega
def AnJ{c:UInt8} (h:DC c=true):([46]:B8).contains c=false:=by grind[We,RD]
def Aks (h:NumP s sg W F FR P EX) (hn:Fz s=s.length) (hb:s.length<=2^48) (hN:s.length+30<N):Jr N s=some (QT sg (W++F) (RB (2^30) P-F.length)):=by
 obtain⟨l1,l2,l3⟩:=h.len;have hne:s≠ []:=by rw[h.eq];intro e;have:=dq.1 e;have:=dq.1 this.2;exact h.Wn this.1
 unfold Jr;refine(Bj (a:=false) λk2=>?_).trans ?_;·rw[ae (by grind),AAY s fG fG,aa,hn];simp
 try dsimp only
 rw[ae fI];have hhead: ∀k8:B8×B8->Option (B8×Int),((idx s 0).bind λx11=>if(AC x11==45)=true then (sub s 1 (s.length:Int)).bind λx12=>k8 (x12,[45])else k8 (s,[]))=k8 (W++(FR++EX),sg):=by
  intro k7;rcases h.sg with e|e
  ·have hs:s=W++(FR++EX):=by rw[h.eq,e];rfl
   cases hW:W with
   |nil=>exact absurd hW h.Wn
   | cons c W'=>
    have hc:DC c=true:=by have:=h.Wd;simp_all
    have hs2:s=c::(W'++(FR++EX)):=by grind
    rw[hs2,show idx (c::(W'++(FR++EX))) 0=some c from rfl,aa,AdB,We];have:=RD hc;have: ¬c.toNat=(45:UInt8).toNat:=by grind
    simp_all
  ·have hs2:s=45::(W++(FR++EX)):=by rw[h.eq,e];rfl
   rw[hs2,show idx (45::(W++(FR++EX))) 0=some 45 from rfl,aa,ah (by rfl),Qf,aa,e]
 refine(Bj (a:=(W++(FR++EX),sg)) λk8=>hhead k8).trans ?_;try dsimp only
 have hWF:(W++(FR++EX)).takeWhile (λc=>!([101,69]:B8).contains c)=W++FR:=by
  rw[<-aF];refine Yz (λc hc=>?_) ?_
  ·rcases aY.1 hc with hc|hc;·rw[AX8 (AJU h.Wd c hc)];rfl
   ·rcases h.fr with⟨e1,e2⟩|e;·grind
    ·rw[e]at hc;rcases aI.1 hc with rfl|hc;·rfl
     ·rw[AX8 (AJU h.Fd c hc)];rfl
  ·rcases h.ex with⟨e1,e2⟩|e|e;·exact .inl e1
   ·exact .inr ⟨_,_,e,rfl⟩
   ·exact .inr ⟨_,_,e,rfl⟩
 have hlen:(W++(FR++EX)).length=(W++FR).length+EX.length:=by grind
 rw[LA _ _ fI (by grind),aa,hWF,AO (by grind),show(((W++FR).length:Nat):Int)+1=(((W++FR).length+1:Nat):Int) by simp,ABn,aa];have hP:(W++(FR++EX)).drop ((W++FR).length+1)=P:=by rw[<-aF,cr,bW fG,aT,bk];rcases h.ex with⟨e1,e2⟩|e|e<;>grind
 rw[hP,AlY h.pw fG,aa];have hsub:sub (W++(FR++EX)) 0 (((W++FR).length:Nat):Int)=some (W++FR):=by rw[show(0:Int)=((0:Nat):Int)from rfl,BA _ 0 _ fG fG,<-aF];grind
 rw[hsub,aa];have hev: -(2^30:Int)<=RB (2^30) P/\RB (2^30) P<=(2^30:Int):=by unfold RB;have:min (JR 0 (P.dropWhile ([43,45]:B8).contains)) (2^30)<=2^30:=ed _ _;split<;>omega
 generalize RB (2^30) P=x at *;have hdot:(W++FR).takeWhile (λc=>!([46]:B8).contains c)=W:=by
  refine Yz (λc hc=>?_) ?_;·rw[AnJ (AJU h.Wd c hc)];rfl
  ·rcases h.fr with⟨e1,e2⟩|e;·exact .inl e1
   ·exact .inr ⟨_,_,e,rfl⟩
 refine(Bj (a:=(x-(F.length:Int),W++F)) λk21=>?_).trans ?_
 ·rw [LA _ _ fI (by grind),aa,hdot];rcases h.fr with⟨e1,e2⟩|e;·simp_all
  ·have hfl:FR.length=F.length+1:=by grind
   have w1:wr .i64 ((W.length:Int)+1)=((W.length+1:Nat):Int):=by grind[AO]
   have s1:sub (W++FR) 0 (W.length:Int)=some W:=by rw[show(0:Int)=((0:Nat):Int)from rfl,BA _ 0 _ fG fH];simp
   have s2:sub (W++FR) ((W.length+1:Nat):Int) (((W++FR).length:Nat):Int)=some F:=by rw[BA _ _ _ (by grind) (aw _),aP (by grind),cr,bW fG,aT,bk,e];rfl
   rw[ah (by grind),s1,aa,w1,s2,aa,AJ (by grind[AL])];grind[wr,List.length_append,AO]
 try dsimp only
 have hml:=(bR (λx:UInt8=>x==48) (l:=W++F)).length_le;rw[an]at hml;refine(Bj (a:=(W++F).dropWhile (· ==48)) λk29=>AXu k29 (W++F) N (by grind)).trans ?_;try dsimp only
 have hhd:(W++F).dropWhile (λx:UInt8=>x==48)=[]\/∃c r,(W++F).dropWhile (λx:UInt8=>x==48)=c::r/\(c==48)=false:=by
  generalize W++F=l;induction l with
  |nil=>simp
  | cons c l ih=>
   rw[bI];cases hc:(c==48);·simp_all
   grind
 have htl:=ABj (λx:UInt8=>x==48) ((W++F).dropWhile (λx:UInt8=>x==48));unfold QT;dsimp only;generalize hm1:(W++F).dropWhile (λx:UInt8=>x==48)=m1 at *;by_cases hz:m1=[];·simp_all
 have hhd': ∃c r,m1=c::r/\(c==48)=false:=by grind
 have hsz:Oe (λx:UInt8=>x==48) m1≠ []:=by
  obtain⟨c,r,rfl,hc⟩:=hhd';have key: ∀(n:Nat) (r:B8),r.length=n->Oe (λx:UInt8=>x==48) (c::r)≠ []:=by
   intro n;induction n with
   | zero=>simp_all[Oe]
   | succ n ih=>
    intro r hr;obtain⟨r',y,rfl⟩: ∃l' y,r=l'++[y]:=by
     have hne:r≠ []:=λe=>by grind
     exact⟨r.dropLast,r.getLast hne,(du hne).symm⟩
    rw[<-bf,WV];split;·exact ih r' (by simpa using hr)
    ·simp
  grind
 rw[ae (by grind),ae hsz];refine(Bj (a:=(x-(F.length:Int)+(m1.length:Int)-((Oe (λx:UInt8=>x==48) m1).length:Int),Oe (λx:UInt8=>x==48) m1)) λk40=>AXD k40 m1.length m1 _ rfl fG hhd' fG fG N fG).trans ?_;try dsimp only
 generalize hsh:Oe (λx:UInt8=>x==48) m1=sh at *;generalize hy:x-(F.length:Int)+(m1.length:Int)-(sh.length:Int)=y at *;have hsg:sg.length<=1:=by rcases h.sg with e|e<;>rw[e]<;>simp
 refine(Bj (a:=decide (sh.length>40\/y< -400\/y>400)) λk26=>?_).trans ?_
 ·by_cases c1:(sh.length:Int)>40;·rw[ah (aA c1),aA (.inl fG)]
  ·rw[ae (by grind)];by_cases c2:y>400;·simp_all
   ·rw[ae (by grind)];congr 1;simp only[dS,dc];omega
 try dsimp only
 by_cases hc:sh.length>40\/y< -400\/y>400;·simp_all
 rw[ae (by grind),ae hc];have hc': ¬(sh.length>40)/\¬y< -400/\¬y>400:=⟨λh=>hc (.inl h),λh=>hc (.inr (.inl h)),λh=>hc (.inr (.inr h))⟩;have hf:=PM;unfold ApD;by_cases c1:y<0;·rw[ah (aA c1),ah c1,AJ (by grind[AL]),AJ (by grind[AL]),AO fG,ABb fG fG,TJ _ fG fG,aa];grind[AJ,AL]
 ·rw[ae (by grind),ae c1];by_cases c2:y>0;·have:=hf y.toNat;rw[ah (aA c2),ah c2,AJ (by grind[AL]),AJ (by grind[AL]),ABb fG fG,TJ _ fG fG,aa,AJ (by grind[AL])];simp
  ·rw[ae (by grind),ae c2,AJ (by grind[AL])];simp
end
end
end Go.VM
namespace Go.VM
section
variable{N:Nat}
def preB (p l:B8):Bool:=if p.length<=l.length then l.take p.length==p else false
theorem Agi (p l:B8):Ba N l p=some (preB p l):=by
 unfold Ba preB;by_cases h:p.length<=l.length;·rw[ah (by grind),ah h,show(0:Int)=((0:Nat):Int)from rfl,BA l 0 _ (bP _) h,aa];simp
 ·rw[ae (by grind),ae h]
def ABT (p l:B8):strings_HasPrefix N l p=some (preB p l):=by grind[strings_HasPrefix,Agi]
def VE (p l:B8):GX N l p=some (preB p l):=by
 unfold GX preB;by_cases h:p.length<=l.length;·rw[ah (by grind),ah h,show(0:Int)=((0:Nat):Int)from rfl,BA l 0 _ (bP _) h,aa];simp
 ·rw[ae (by grind),ae h]
def ABG{p l:B8} (h:preB p l=true): ∃t,l=p++t:=by
 unfold preB at h;split at h;·have:=bE.1 h;grind[List.take_append_drop]
 grind
def Cx{l:B8}{n:Nat} (h:n<=l.length):sub l (n:Int) (l.length:Int)=some (l.drop n):=by rw[BA l n l.length h (aw _),aP fH]
def AR7 (p l:B8):strings_TrimPrefix N l p=some (if preB p l=true then l.drop p.length else l):=by
 unfold strings_TrimPrefix Ej;rw[Agi,aa];by_cases h:preB p l=true;·obtain⟨t,rfl⟩:=ABG h;rw[ah h,ah h,Cx fH,aa,aa]
 simp_all
def AXo (p l:B8):strings_CutPrefix N l p=some (if preB p l=true then(l.drop p.length,true)else(l,false)):=by
 unfold strings_CutPrefix Ex;rw[Agi,aa];by_cases h:preB p l=true;·obtain⟨t,rfl⟩:=ABG h;rw[ah h,ah h,Cx fH,aa,aa]
 simp_all
def Ta (l:B8):Nat->Option Nat |0=>none|n+1=>if l[n]?=some 47 then some n else Ta l n
def ABk{l:B8}{i:Nat}: ∀ {n:Nat},Ta l n=some i->i<n
 |0,h=>by cases h
 | n+1,h=>by
  rw[Ta]at h;split at h;·grind
  ·have:=ABk h;omega
def b47 (c:UInt8):(AC c==47)=decide (c=47):=by have:=BJ (f:=λn=>((n:Int)==47)) (g:=λn=>decide (UInt8.ofNat n=47)) (by kernel_rfl) c;simp only[bv]at this;exact this
def AE3{l:B8} (hb:l.length<=1000000): ∀(n k:Nat),n<=l.length->n<k->Ag N l 47 (λ_=>some (-1)) k ((n:Int)-1)=some (match Ta l n with|some i=>(i:Int)|none=> -1)
 |n,0,_,h=>by omega
 |0,k+1,_,_=>by rw[Ag,ae fI];rfl
 | n+1,k+1,hn,hk=>by
  rw[Ag,ah fH,show((n+1:Nat):Int)-1=(n:Int) by omega,Ji,bF fG,aa,b47,Ta,bF fG];by_cases h:l[n]=47;·simp_all
  ·rw[aO h,ae fI,ae (by grind),AO fG];exact AE3 hb n k fG fG
def AYk (l:B8) (hb:l.length<=1000000) (hN:l.length<N):strings_LastIndexByte N l 47=some (match Ta l l.length with|some i=>(i:Int)|none=> -1):=by unfold strings_LastIndexByte De;rw[AA,AO fG,AE3 hb l.length N (aw _) hN];rfl
def Lf (l:B8):B8:=match Ta l l.length with|some i=>l.take i|none=>[]
def ADA{l:B8} (hb:l.length<=1000000): ∀(n k:Nat),n<=l.length->n<k->FC N l (λ_=>some []) k ((n:Int)-1)=some (match Ta l n with|some i=>l.take i|none=>[])
 |n,0,_,h=>by omega
 |0,k+1,_,_=>by rw[FC,ae fI];rfl
 | n+1,k+1,hn,hk=>by
  rw[FC,ah fH,show((n+1:Nat):Int)-1=(n:Int) by omega,Ji,bF fG,aa,b47,Ta,bF fG];by_cases h:l[n]=47;·rw[aA h,ah rfl,ah (by rw[h]),show(0:Int)=((0:Nat):Int)from rfl,BA l 0 n (bP _) fG,aa];simp
  ·rw[aO h,ae fI,ae (by grind),AO fG];exact ADA hb n k fG fG
def AE6 (l:B8) (hb:l.length<=1000000) (hN:l.length<N):LP N l=some (Lf l):=by unfold LP Lf;rw[AA,AO fG,ADA hb l.length N (aw _) hN]
def Ou (s:B8):Nat:=1+((s.drop 1).takeWhile (· !=47)).length
def M5:Nat->B8->B8->B8 |0,_,_=>[]| k+1,s,out=>if s=[]then out else if preB [46,46,47] s=true then M5 k (s.drop 3) out else if preB [46,47] s=true then M5 k (s.drop 2) out else if preB [47,46,47] s=true then M5 k (s.drop 2) out else if s=[47,46]then M5 k [47] out else if preB [47,46,46,47] s=true then M5 k (s.drop 3) (Lf out) else if s=[47,46,46]then M5 k [47] (Lf out) else if s=[46]\/s=[46,46]then M5 k [] out else M5 k (s.drop (Ou s)) (out++s.take (Ou s))
def U7 (l:B8):(Lf l).length<=l.length:=by grind[Lf]
def Ajg{s:B8} (h:s≠ []):Ou s<=s.length:=by cases s with |nil=>grind|cons c t=>grind[Ou,KM,List.drop_one,List.tail_cons,List.length_cons]
def QB{p l:B8} (h:preB p l=true):p.length<=l.length:=by obtain⟨t,rfl⟩:=ABG h;simp
def MW{M:Nat} (hM:M<=100000) (hN:M+100<=N) (k2:B8->Option B8): ∀(k:Nat) (s out:B8),s.length<k->s.length+out.length<=M->Ao N k2 k s out=k2 (M5 k s out)
 |0,s,out,h,_=>by omega
 | k + 1,s,out,hk,hb=>by
  rw[Ao,M5];by_cases h0:s=[];·simp_all
  have hpos:0<s.length:=bD.2 h0;have hso:=U7 out;rw[ae (by grind),ae h0,VE,aa];by_cases h1:preB [46,46,47] s=true;·have:=QB h1;simp only[ag,ap]at this;rw[ah h1,ah h1,show(3:Int)=((3:Nat):Int)from rfl,Cx fG,aa];exact MW hM hN k2 k _ out (by grind) (by grind)
  rw[ae h1,ae h1,VE,aa];by_cases h2:preB [46,47] s=true;·have:=QB h2;simp only[ag,ap]at this;rw[ah h2,ah h2,show(2:Int)=((2:Nat):Int)from rfl,Cx fG,aa];exact MW hM hN k2 k _ out (by grind) (by grind)
  rw[ae h2,ae h2,VE,aa];by_cases h3:preB [47,46,47] s=true;·have:=QB h3;simp only[ag,ap]at this;rw[ah h3,ah h3,show(2:Int)=((2:Nat):Int)from rfl,Cx fG,aa];exact MW hM hN k2 k _ out (by grind) (by grind)
  rw[ae h3,ae h3];by_cases h4:s=[47,46];·rw[ah (by grind),ah h4];have:=bg List.length h4;simp only[ag,ap]at this;exact MW hM hN k2 k _ out (by grind) (by grind)
  rw[ae (by grind),ae h4,VE,aa];by_cases h5:preB [47,46,46,47] s=true;·have:=QB h5;simp only[ag,ap]at this;rw[ah h5,ah h5,show(3:Int)=((3:Nat):Int)from rfl,Cx fG,aa,AE6 out fG fG,aa];exact MW hM hN k2 k _ _ (by grind) (by grind)
  rw[ae h5,ae h5];by_cases h6:s=[47,46,46];·rw[ah (by grind),ah h6,AE6 out fG fG,aa];have:=bg List.length h6;simp only[ag,ap]at this;exact MW hM hN k2 k _ _ (by grind) (by grind)
  rw[ae (by grind),ae h6];dsimp only[AA];have hdd:(if(s==([46]:B8))=true then Ao N k2 k [] out else if(s==([46,46]:B8))=true then Ao N k2 k [] out else (sub s 1 (s.length:Int)).bind λx26=>(Be N x26 ([47]:B8)).bind λy27=>(sub s (wr .i64 (1+y27)) (s.length:Int)).bind λx29=>(sub s 0 (wr .i64 (1+y27))).bind λx30=>grd (AL (out.length+x30.length)) (Ao N k2 k x29 (out++x30)))=k2 (if s=[46]\/s=[46,46]then M5 k [] out else M5 k (s.drop (Ou s)) (out++s.take (Ou s))):=by
   have hrec:=MW hM hN k2 k [] out (by grind) (by grind);by_cases h7:s=[46];·simp_all
   by_cases h8:s=[46,46];·simp_all
   have hw:(λc:UInt8=>!([47]:B8).contains c)=(λc=>c !=47):=by grind
   have hsl:=Ajg h0;rw[ae (by grind),ae (by grind),ae (by grind),show(1:Int)=((1:Nat):Int)from rfl,Cx fG,aa,LA _ [47] fI (by grind),aa,hw];have e:wr .i64 (((1:Nat):Int)+(((s.drop 1).takeWhile (λc=>c !=47)).length:Int))=((Ou s:Nat):Int):=by grind[Ou,AO]
   rw[e,Cx hsl,aa,show(0:Int)=((0:Nat):Int)from rfl,BA s 0 _ (bP _) hsl,aa,BV (by grind),ba,bV];have h1s:1<=Ou s:=by grind[Ou]
   exact MW hM hN k2 k _ _ (by grind) (by grind)
  simp_all
def Alh (s:B8) (hN:20000<=N) (hb:s.length<=16400):I8 N s=some (M5 N s []):=by unfold I8;rw[AA,MW (M:=16400) fG fG _ N s [] fG fJ]
end
end Go.VM
namespace Go.VM
section
variable{N:Nat}
theorem UE (m:Nat) (l:B8):0<=(Gh m l).1/\(Gh m l).1<=m:=by grind[Gh]
def Tc (l:B8):Int×Int:=if((Gh 65535 l).2 !=0||(Gh 65535 l).1==0)=true then(0,51)else((Gh 65535 l).1,0)
def AfL (l:B8) (hb:l.length<=2^60):SK N l=some (Tc l):=by have:=UE 65535 l;unfold SK Tc;rw[show(65535:Int)=((65535:Nat):Int)from rfl,ADs fI l hb,aa];dsimp only[AA];rw[AO fG];cases (Gh 65535 l).2 !=0<;>cases (Gh 65535 l).1==0<;>rfl
def Aei (l:B8) (hb:l.length<=2^60):QO N l=some (Tc l):=by have:=UE 65535 l;unfold QO Tc;rw[show(65535:Int)=((65535:Nat):Int)from rfl,ACZ fI fI l hb,aa];dsimp only[AA];rw[AO fG];cases (Gh 65535 l).2 !=0<;>cases (Gh 65535 l).1==0<;>rfl
def hpS (l:B8):ApiHostPort×Int:=if((Jf (Ac 58 l).1).2 !=0)=true then(⟨[],0⟩,(Jf (Ac 58 l).1).2) else if(Ac 58 l).2.2=true then(if((Tc (Ac 58 l).2.1).2 !=0)=true then(⟨[],0⟩,(Tc (Ac 58 l).2.1).2)else(⟨(Jf (Ac 58 l).1).1,if((Tc (Ac 58 l).2.1).1==443)=true then 0 else(Tc (Ac 58 l).2.1).1⟩,0)) else(⟨(Jf (Ac 58 l).1).1,0⟩,0)
theorem UL{c:UInt8}: ∀l:B8,l.contains c=false->l.takeWhile (· !=c)=l
 |[],_=>rfl
 | x::t,h=>by
  rw[bh,dD]at h;have e:(x !=c)=true:=by simp only[dQ,dY];grind
  rw[aN,e,ah rfl,UL t h.2]
def Aef (l:B8) (hb:l.length<=1000000):N7 N l=some (hpS l):=by
 have hw:(λc:UInt8=>!([58]:B8).contains c)=(λc=>c !=58):=by grind
 have hle:=KM (· !=(58:UInt8)) l;have h0:sub l 0 ((l.takeWhile (· !=(58:UInt8))).length:Int)=some (l.takeWhile (· !=(58:UInt8))):=by have:=BA l 0 _ (bP _) hle;rw[ba,bV,J3]at this;omega
 unfold N7 hpS;rw[LA l [58] fI fG,aa,hw,h0,aa,ADi,aa];unfold Ac;cases hc:l.contains 58
 ·have hall:l.takeWhile (· !=(58:UInt8))=l:=by grind[UL]
  simp only[aj,aq];rw[hall];by_cases h:((Jf l).2 !=0)=true<;>simp_all[Jf]
 ·have hlt:=OJ hc;have hd:l.drop ((l.takeWhile (· !=(58:UInt8))).length+1)=(l.dropWhile (· !=(58:UInt8))).drop 1:=by grind[List.drop_drop,List.takeWhile_append_dropWhile,List.drop_left]
  simp only[av];by_cases h:((Jf (l.takeWhile (· !=(58:UInt8)))).2 !=0)=true;·grind
  ·rw[ae h,ae h,ae (by grind)];rw[show wr .i64 (((l.takeWhile (· !=(58:UInt8))).length:Int)+1)=(((l.takeWhile (· !=(58:UInt8))).length+1:Nat):Int) by grind[AO],BA l _ _ fG fG,aa,hd,aP (by have:=bg List.length hd;grind),Aei _ (by grind[List.length_drop,List.dropWhile_sublist]),aa];dsimp only[AA];by_cases hp:((Tc ((l.dropWhile (· !=(58:UInt8))).drop 1)).2 !=0)=true;·simp_all
   ·rw[ae hp,ae hp];split<;>rfl
end
end Go.VM
namespace Go.VM
section
variable{N:Nat}
def AUl{out:B8}{bq:List Int} (h:List.take out.length bq=List.map AC out):List.take (Lf out).length bq=List.map AC (Lf out):=by
 have hle:=U7 out;have e:List.take (Lf out).length (List.take out.length bq)=List.take (Lf out).length bq:=by rw[List.take_take,cR hle]
 rw[<-e,h];unfold Lf;split;·rename_i i hi;have:=ABk hi;rw[bL,cR fG,fC]
 ·simp
def Af5 (out:B8) (v:Int) (hv:v=(match Ta out out.length with|some i=>(i:Int)|none=> -1)):(if v>0 then v else 0).toNat=(Lf out).length/\0<=(if v>0 then v else 0)/\(if v>0 then v else 0)<=(out.length:Int):=by subst hv;unfold Lf;cases h:Ta out out.length with |none=>simp| some i=>have:=ABk h;simp only[bL];split<;>omega
theorem Nl {M:Nat} (hM:M<=100000) (hN:M+100<=N): ∀(k:Nat) (s out:B8) (bq:List Int),s.length<k->s.length+out.length<=M->out.length<=bq.length->List.take out.length bq=List.map AC out->Ar N k s out.length bq=some (M5 k s out)
 |0,s,out,bq,h,_,_,_=>by omega
 | k + 1,s,out,bq,hk,hb,hl,ht=>by
  rw[Ar,M5];have hchr:List.map Ha (List.take out.length bq)=out:=by rw[ht,L9]
  have hso:=U7 out;by_cases h0:s=[];·rw[ah (by grind),ah h0,AJ ⟨hl,by grind[AL]⟩,hchr]
  have hpos:0<s.length:=bD.2 h0;rw[ae (by grind),ae h0,ABT,aa];by_cases h1:preB [46,46,47] s=true;·have:=QB h1;simp only[ag,ap]at this;rw[ah h1,ah h1,show(3:Int)=((3:Nat):Int)from rfl,Cx fG,aa];exact Nl hM hN k _ out bq (by grind) (by grind) hl ht
  rw[ae h1,ae h1,ABT,aa];by_cases h2:preB [46,47] s=true;·have:=QB h2;simp only[ag,ap]at this;rw[ah h2,ah h2,show(2:Int)=((2:Nat):Int)from rfl,Cx fG,aa];exact Nl hM hN k _ out bq (by grind) (by grind) hl ht
  rw[ae h2,ae h2,ABT,aa];by_cases h3:preB [47,46,47] s=true;·have:=QB h3;simp only[ag,ap]at this;rw[ah h3,ah h3,show(2:Int)=((2:Nat):Int)from rfl,Cx fG,aa];exact Nl hM hN k _ out bq (by grind) (by grind) hl ht
  rw[ae h3,ae h3];by_cases h4:s=[47,46];·rw[ah (by grind),ah h4];have:=bg List.length h4;simp only[ag,ap]at this;exact Nl hM hN k _ out bq (by grind) (by grind) hl ht
  rw[ae (by grind),ae h4];dsimp only[AA];rw[ABT,aa];have hcut: ∀s2:B8,s2.length<k->s2.length+out.length<=M->∀(v:Int),v=(match Ta out out.length with|some i=>(i:Int)|none=> -1)->grd (0<=(if v>0 then v else 0)/\(if v>0 then v else 0)<=(out.length:Int)) (Ar N k s2 ((if v>0 then v else 0).toNat) bq)=some (M5 k s2 (Lf out)):=by intro s2 hs2 hs3 v hv;obtain⟨e1,e2,e3⟩:=Af5 out v hv;rw[AJ ⟨e2,e3⟩,e1];exact Nl hM hN k s2 (Lf out) bq hs2 fG fG (AUl ht)
  have htail: ∀s2:B8,s2.length<k->s2.length+out.length<=M->(grd (out.length<=bq.length/\AL out.length) ((strings_LastIndexByte N (List.map Ha (List.take out.length bq)) 47).bind λy20=>grd (0<=(if y20>0 then y20 else 0)/\(if y20>0 then y20 else 0)<=(out.length:Int)) (Ar N k s2 ((if y20>0 then y20 else 0).toNat) bq)))=some (M5 k s2 (Lf out)):=by intro s2 hs2 hs3;rw[AJ ⟨hl,by grind[AL]⟩,hchr,AYk out fG fG,aa];exact hcut s2 hs2 hs3 _ rfl
  by_cases h5:preB [47,46,46,47] s=true
  ·obtain⟨t,rfl⟩:=ABG h5;have e3:([47,46,46,47]++t:B8).drop 3=47::t:=rfl;have ep:preB [47] (47::t)=true:=by simp_all[preB]
   simp only[an,ag,ap]at hk hb;rw[ah h5,ah h5,ah rfl,show(3:Int)=((3:Nat):Int)from rfl,Cx fH,aa,e3,AR7,ah ep,aa,BV fJ];exact htail (47::t) (by grind) (by grind)
  rw[ae h5,ae h5];by_cases h6:s=[47,46,46];·subst h6;simp only[ag,ap]at hk hb;rw[ah (by rfl),ah rfl,show(3:Int)=((3:Nat):Int)from rfl,Cx fH,aa,AR7,ae fI,aa,BV fH];exact htail [47] (by grind) (by grind)
  rw[ae (by grind),ae h6];have hdd:(if(s==([46]:B8))=true then Ar N k [] out.length bq else if(s==([46,46]:B8))=true then Ar N k [] out.length bq else (sub s 1 (s.length:Int)).bind λx26=>(strings_IndexByte N x26 47).bind λy27=>if((wr .i64 (1+y27))==0)=true then (sub s 0 (s.length:Int)).bind λx33=>grd (out.length<=bq.length/\BR (out.length+x33.length) 1) ((sub s (s.length:Int) (s.length:Int)).bind λx35=>Ar N k x35 (out.length+x33.length) (List.take out.length bq++List.map AC x33)) else (sub s 0 (wr .i64 (1+y27))).bind λx33=>grd (out.length<=bq.length/\BR (out.length+x33.length) 1) ((sub s (wr .i64 (1+y27)) (s.length:Int)).bind λx35=>Ar N k x35 (out.length+x33.length) (List.take out.length bq++List.map AC x33)))=some (if s=[46]\/s=[46,46]then M5 k [] out else M5 k (s.drop (Ou s)) (out++s.take (Ou s))):=by
   have hrec:=Nl hM hN k [] out bq (by grind) (by grind) hl ht;by_cases h7:s=[46];·simp_all
   by_cases h8:s=[46,46];·simp_all
   have hsl:=Ajg h0;have h1s:1<=Ou s:=by grind[Ou]
   rw[ae (by grind),ae (by grind),ae (by grind),show(1:Int)=((1:Nat):Int)from rfl,Cx fG,aa,show(47:Int)=AC 47 from rfl,KY,aa,OM];have fin:((sub s 0 ((Ou s:Nat):Int)).bind λx33=>grd (out.length<=bq.length/\BR (out.length+x33.length) 1) ((sub s ((Ou s:Nat):Int) (s.length:Int)).bind λx35=>Ar N k x35 (out.length+x33.length) (List.take out.length bq++List.map AC x33)))=some (M5 k (s.drop (Ou s)) (out++s.take (Ou s))):=by rw[show(0:Int)=((0:Nat):Int)from rfl,BA s 0 _ (bP _) hsl,aa,AJ ⟨hl,Ov (by grind)⟩,Cx hsl,aa,ba,bV,ht];have hlen:out.length+(List.take (Ou s) s).length=(out++List.take (Ou s) s).length:=fH;rw[hlen];exact Nl hM hN k _ (out++s.take (Ou s)) _ (by grind) (by grind) fH (by grind[List.take_of_length_le])
   by_cases hc:(s.drop 1).contains 47=true
   ·have e:wr .i64 (((1:Nat):Int)+(((s.drop 1).takeWhile (· !=47)).length:Int))=((Ou s:Nat):Int):=by unfold Ou at hsl⊢;rw[AO fG];omega
    rw[ah hc,e,ae (by grind)];omega
   ·rw[ae hc,ah (by rfl)];have hc':(s.drop 1).contains 47=false:=by grind
    have e:Ou s=s.length:=by grind[UL,Ou,List.length_drop]
    simp_all
  simp_all
def Am4 (s:B8) (hN:20000<=N) (hb:s.length<=16380):JJ N s=some (M5 N s []):=by unfold JJ;rw[AJ (by grind[AAG])];have:=Nl (N:=N) (M:=16380) fG fG N s [] (List.replicate (0:Int).toNat 0) fG fJ fH fH;grind
theorem QA: ∀(k:Nat) (s out:B8),(M5 k s out).length<=s.length+out.length
 |0,s,out=>by simp[M5]
 | k+1,s,out=>by
  have hso:=U7 out;rw[M5];split;·omega
  split;·have:=QA k (s.drop 3) out;grind
  split;·have:=QA k (s.drop 2) out;grind
  split;·have:=QA k (s.drop 2) out;grind
  split;·rename_i h;have:=QA k [47] out;grind
  split;·have:=QA k (s.drop 3) (Lf out);grind
  split;·rename_i h;have:=QA k [47] (Lf out);grind
  split;·have:=QA k [] out;grind
  ·have:=QA k (s.drop (Ou s)) (out++s.take (Ou s));grind
end
end Go.VM
