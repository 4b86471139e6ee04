import Derived.Test.YtfbofngnmfcomaaGreatDoorL1
set_option linter.defProp false
set_option linter.unusedVariables false
set_option linter.unusedSimpArgs false
namespace Go.VM
section
variable{N:Nat}
def AeU (n:Nat):UInt8:=([48,49,50,51,52,53,54,55,56,57,65,66,67,68,69,70]:B8).getD n 0
def X8 (c:UInt8):B8:=[37,AeU (c.toNat / 16),AeU (c.toNat % 16)]
def ARc (c:UInt8):Jg N (AJ c)=some (X8 c):=by have:=Cq (f:=λn=>Jg N (n:Int)) (g:=λn=>some ([37,AeU (n / 16),AeU (n % 16)]:B8)) (by kernel_rfl) c;exact this
def Xh (also:B8):Nat->B8->B8->B8×Int|0,_,_=>([],2)|_+1,[],out=>(out,0)|k+1,c::t,out=>if c=37 then(match AFQ t with|some x=>Xh also k (t.drop 2) (out++(if PL x=true then [x]else X8 x))|none=>([],2))else if(PL c||also.contains c)=true then Xh also k t (out++[c])else([],1)
section
variable{l also:B8}
def UT (hb:l.length<=100000) (ha:also.length<=1000): ∀(k:Nat) (t:B8) (i:Nat) (out:B8),l.drop i=t->i<=l.length->t.length<k->out.length<=3 * i->Ch N l also (λj=>some (List.map FX j,0)) k (List.map AJ out) (i:Int)=some (Xh also k t out)
 |0,t,i,out,_,_,h,_=>by omega
 |k+1,[],i,out,h,hi,hk,ho=>by have hl:=Ru h hi;rw[Ch,an (by grind),QO];rfl
 | k+1,c::t,i,out,h,hi,hk,ho=>by
  have hl:=Ru h hi;simp only[ag]at hl hk;rw[Ch,aq (by grind),AC,show idx l (i:Int)=some c from P7 (j:=0) h rfl,aa,bne,Afm,Xh];have hd:l.drop (i+1)=t:=by rw[<-aY,h];rfl
  by_cases hc:c=37
  ·subst hc;rw[aG rfl,an fA,aq rfl,AnP h fx,aa];cases he:AFQ t with
   |none=>rfl
   |some x=>
    have:=AJ7 he;simp only[ABt,aD];rw[AC,AYB,aa];have e3:wr .i64 (wr .i64 ((i:Int)+2)+1)=((i+3:Nat):Int):=by grind[Aq]
    cases hu:PL x;·rw[an fA,ARc,aa,AU (Tw (by grind[X8]))];dsimp only;rw[e3,show List.map AJ out++List.map AJ (X8 x)=List.map AJ (out++X8 x) by simp];exact UT hb ha k _ (i+3) (out++X8 x) (by grind[List.drop_drop]) fx (by grind) (by grind[X8])
    ·rw[aq rfl,AU (Tw (by grind))];dsimp only;rw[e3,show List.map AJ out++[AJ x]=List.map AJ (out++[x]) by simp];exact UT hb ha k _ (i+3) (out++[x]) (by grind[List.drop_drop]) fx (by grind) (by grind)
  ·rw[aO hc,aq fA,an hc,AC,AYB,aa];have step:grd (Ac ((List.map AJ out).length+1) 1) ((λj6:List Int×Int=>Ch N l also (λj=>some (List.map FX j,0)) k j6.1 (wr .i64 (j6.2+1))) (List.map AJ out++[AJ c],(i:Int)))=some (Xh also k t (out++[c])):=by rw[AU (Tw (by grind))];dsimp only;rw[show wr .i64 ((i:Int)+1)=((i+1:Nat):Int) by grind[Aq],show List.map AJ out++[AJ c]=List.map AJ (out++[c]) by simp];exact UT hb ha k t (i+1) (out++[c]) hd fx fx (by grind)
   cases hu:PL c;·rw[an fA,AXK c also ha,aa,bg];grind
   simp_all
end
def EA (N:Nat) (s also:B8):B8×Int:=if s.length>16384 then([],5)else Xh also N s []
def RA (s also:B8) (hN:20000<=N) (ha:also.length<=1000):Dn N s also=some (EA N s also):=by
 unfold Dn EA;by_cases h:s.length>16384;·rw[aq (by grind),aq h]
 ·rw[an (by grind),an h,AC];exact UT (l:=s) fx ha N s 0 [] rfl fx fx fy
end
end Go.VM
namespace Go.VM
section
variable{N:Nat}
def Kj (c:UInt8): ∀l:B8,decide (Go.Lib.indexByte l c>=0)=l.contains c
 |[]=>rfl
 | b::l=>by
  have ih:=Kj c l;have hge:=Go.Lib.indexByte_ge l c;unfold Go.Lib.indexByte;rw[bC];by_cases h:b=c;·grind
  ·rw[an (by grind),show(c==b)=false by grind,bg,<-ih];by_cases h1:Go.Lib.indexByte l c= -1;·grind
   ·rw[an (by grind)];congr 1;simp only[eq_iff_iff];constructor<;>intro<;>omega
def AAF (out:B8) (c:UInt8) (ho:out.length<=900000000):E5 N (List.map AJ out) (AJ c)=some (List.map AJ (out++X8 c)):=by have h1:=Cq (f:=λn=>idx ([48,49,50,51,52,53,54,55,56,57,65,66,67,68,69,70]:B8) (AB1 .u8 (n:Int) 4)) (g:=λn=>some (AeU (n / 16))) (by kernel_rfl) c;have h2:=Cq (f:=λn=>idx ([48,49,50,51,52,53,54,55,56,57,65,66,67,68,69,70]:B8) (Oq .u8 (n:Int) 15)) (g:=λn=>some (AeU (n % 16))) (by kernel_rfl) c;unfold E5;rw[show AJ c=(c.toNat:Int)from rfl,h1,aa,h2,aa,AU (Tw (by grind))];simp[X8,AJ]
section
variable{l also:B8}
def UQ (hb:l.length<=100000): ∀(k:Nat) (t:B8) (i:Nat) (out:B8),l.drop i=t->i<=l.length->t.length<k->out.length<=i->CJ N l also (λj=>some (List.map FX j,0)) k (i:Int) (List.map AJ out)=some (Xh also k t out)
 |0,t,i,out,_,_,h,_=>by omega
 |k+1,[],i,out,h,hi,hk,ho=>by have hl:=Ru h hi;rw[CJ,an (by grind),QO];rfl
 | k+1,c::t,i,out,h,hi,hk,ho=>by
  have hl:=Ru h hi;simp only[ag]at hl hk;rw[CJ,aq (by grind)];dsimp only[AC];rw[show idx l (i:Int)=some c from P7 (j:=0) h rfl,aa,Afm,Xh];have hd:l.drop (i+1)=t:=by rw[<-aY,h];rfl
  by_cases hc:c=37
  ·rw[aG hc,aq rfl,aq hc,Ang h fx,aa];cases he:AFQ t with
   |none=>rfl
   |some x=>
    have:=AJ7 he;simp only[ABt,aD];rw[AYg,aa];have e3:wr .i64 (wr .i64 ((i:Int)+2)+1)=((i+3:Nat):Int):=by grind[Aq]
    cases hu:PL x;·rw[an fA,AAF out x fx,aa,e3];exact UQ hb k _ (i+3) (out++X8 x) (by grind[List.drop_drop]) fx (by grind) (by grind[X8])
    ·rw[aq rfl,AU (Tw (by grind)),e3,show List.map AJ out++[AJ x]=List.map AJ (out++[x]) by simp];exact UQ hb k _ (i+3) (out++[x]) (by grind[List.drop_drop]) fx (by grind) (by grind)
  ·rw[aO hc,an fA,an hc,AYg,aa,NA,aa,Kj];have step:grd (Ac ((List.map AJ out).length+1) 1) (CJ N l also (λj=>some (List.map FX j,0)) k (wr .i64 ((i:Int)+1)) (List.map AJ out++[AJ c]))=some (Xh also k t (out++[c])):=by rw[AU (Tw (by grind)),show wr .i64 ((i:Int)+1)=((i+1:Nat):Int) by grind[Aq],show List.map AJ out++[AJ c]=List.map AJ (out++[c]) by simp];exact UQ hb k t (i+1) (out++[c]) hd fx fx (by grind)
   cases hu:PL c;·rw[an fA,bg];grind
   simp_all
end
def Og (s also:B8) (hN:20000<=N):Bq N s also=some (EA N s also):=by
 unfold Bq EA;by_cases h:s.length>16384;·rw[aq (by grind),aq h]
 ·rw[an (by grind),an h,AC];exact UQ (l:=s) fx N s 0 [] rfl fx fx fy
end
end Go.VM
namespace Go.VM
section
variable{N:Nat}
def Kg{l:B8}{i:Nat}{c:UInt8} (h:l[i]?=some c) (hc:c.toNat<128):Cz l i=(c.toNat,1):=by
 have hi:i<l.length:=by grind
 have e:l[i]=c:=by grind
 unfold Cz;have hs:i<(⟨l.toArray⟩:ByteArray).size:=hi;have Bp:((⟨l.toArray⟩:ByteArray)[i]'hs)=c:=e;grind[decode_ascii]
def AMP{set:B8}{c:UInt8} (hc:c.toNat<128):CQ N set ((c.toNat:Nat):Int)=some (Go.Lib.indexByte set c):=by
 unfold CQ;dsimp only[AC];have e:wr .u8 ((c.toNat:Nat):Int)=AJ c:=by rw[AQG fx];rfl
 rw[aq fy,aq (by grind),e,NA];rfl
def ZU (set l:B8):Int:=if(l.any set.contains)=true then(((l.takeWhile λc=>!set.contains c).length:Nat):Int)else-1
def AC0{as:List Bool}{set:B8} (hs:ARW as set) (k17:List Bool->Option Int): ∀(l:B8) (i:Int),DK N k17 l i as=if(l.any set.contains)=true then some (i+(((l.takeWhile λc=>!set.contains c).length:Nat):Int))else k17 as
 |[],i=>by grind[DK]
 |c::l,i=>by
  rw[DK,AO6 hs,aa];dsimp only;cases h:set.contains c;·rw[an fA,AC0 hs k17 l (i+1)];simp only[cP,h,bg,bb,bE,aD,ag];grind
  simp_all
def ADK{set l:B8} (k24:Unit->Option Int): ∀(t pre:B8) (k:Nat),l=pre++t->t.length<k->(∀c,c∈(t.takeWhile λc=>!set.contains c)->c.toNat<128)->(∀c,c∈set->c.toNat<128)->BZ N l set k24 k pre.length=if(t.any set.contains)=true then some (((pre.length+(t.takeWhile λc=>!set.contains c).length:Nat):Int))else k24 ()
 |_,_,0,_,h,_,_=>by omega
 |[],pre,k+1,h,_,_,_=>by simp_all[BZ]
 |c::t,pre,k+1,h,hk,ha,hset=>by
  simp only[ag]at hk;have hget:l[pre.length]?=some c:=by grind
  have hc:c.toNat<128:=by grind[Bp,List.takeWhile_cons]
  rw[BZ,aq (by grind),Kg hget hc];dsimp only;rw[AMP hc,aa,Kj];cases Bp:set.contains c;·rw[an fA];have:=ADK (l:=l) (set:=set) k24 t (pre++[c]) k (by grind) fx (λx hm=>ha x (by simp_all)) hset;rw[ah,be]at this;rw[this];simp only[cP,Bp,bg,bb,bE,aD,ag];grind
  simp_all
theorem X3{set l:B8} (h2:2<=set.length) (hs:set.length<=1000) (hset: ∀c,c∈set->c.toNat<128) (ha:l.length<=8->∀c,c∈(l.takeWhile λc=>!set.contains c)->c.toNat<128) (hb:l.length<=1000000) (hN:20<=N):strings_IndexAny N l set=some (ZU set l):=by
 unfold strings_IndexAny ZU;have hne:set≠ []:=λe=>by grind
 have hsh:strings_shouldUseASCIISet N (l.length:Int)=some (decide ((l.length:Int)>8)):=rfl;obtain⟨as,e1,e2⟩:=Alu (N:=N) set hset hs;rw[an (by grind),an (by grind)];dsimp only[AC];rw[hsh,aa];by_cases h:l.length>8;·rw[aq (by grind),e1,aa,AU AAq];dsimp only;rw[AU e2.1,aq rfl,BU fx,AC0 e2];split<;>simp
 ·rw[an (by grind),show(0:Nat)=([]:B8).length from rfl,ADK (l:=l) _ l [] N rfl fx (ha fx) hset];split<;>simp
end
end Go.VM
namespace Go.VM
section
variable{N:Nat}
def Ath (l:B8) (i:Nat):(⟨l.toArray⟩:ByteArray).get! i=l.getD i 0:=by change (l.toArray[i]!)=_;rw[List.getElem!_toArray,List.getElem!_eq_getElem?_getD,List.getD_eq_getElem?_getD];rfl
theorem AQV{l:B8}{i:Nat}{c:UInt8} (h:l[i]?=some c) (hc:128<=c.toNat):∃r w,Cz l i=(r,w)/\128<=r/\r<=1114111/\(Go.Utf8.valid r=true)/\1<=w/\i+w<=l.length/\∀j,j<w->∀d,l[i+j]?=some d->128<=d.toNat:=by
 have hi:i<l.length:=by grind
 have h0:l.getD i 0=c:=by grind
 have one: ∀j,j<1->∀d,l[i+j]?=some d->128<=d.toNat:=λj hj d hd=>by simp_all
 have bad: ∃r w,(Go.Utf8.runeError,1)=(r,w)/\128<=r/\r<=1114111/\(Go.Utf8.valid r=true)/\1<=w/\i+w<=l.length/\∀j,j<w->∀d,l[i+j]?=some d->128<=d.toNat:=⟨_,_,rfl,fA,fA,fA,au 1,fx,one⟩;have hsz:(⟨l.toArray⟩:ByteArray).size=l.length:=rfl;unfold Cz Go.Utf8.decode;simp only[Ath,hsz,bV,h0];have hb:=UInt8.toNat_lt c;rw[an fx];split
 ·rename_i h2;simp only[av,bc,aw]at h2;split
  ·rename_i h3;refine⟨_,_,rfl,fx,fx,?_,fx,fx,λj hj=>?_⟩;·unfold Go.Utf8.valid;simp only[cK,av,aw];omega
   ·rcases (by omega:j=0\/j=1)with rfl|rfl;·grind
    grind
  omega
 split
 ·rename_i h2;simp only[av,bc,aw]at h2;split
  ·rename_i h3;simp only[av,ge_iff_le,aw]at h3;refine⟨_,_,rfl,fx,fx,h3.2,fx,fx,λj hj=>?_⟩;rcases (by omega:j=0\/j=1\/j=2)with rfl|rfl|rfl;·grind
   ·grind
   grind
  omega
 split
 ·rename_i h2;simp only[av,bc,aw]at h2;split
  ·rename_i h3;simp only[av,ge_iff_le,aw]at h3;have hv:=h3.2;unfold Go.Utf8.valid at hv;simp only[cK,av,aw]at hv;refine⟨_,_,rfl,fx,fx,h3.2,fx,fx,λj hj=>?_⟩;rcases (by omega:j=0\/j=1\/j=2\/j=3)with rfl|rfl|rfl|rfl;·grind
   ·grind
   ·grind
   grind
  omega
 omega
def AAa{l:B8}{set:B8}: ∀(w i:Nat),i+w<=l.length->(∀j,j<w->∀d,l[i+j]?=some d->set.contains d=false)->(l.drop i).any set.contains=(l.drop (i+w)).any set.contains/\((l.drop i).takeWhile λc=>!set.contains c).length=w+((l.drop (i+w)).takeWhile λc=>!set.contains c).length|0,i,_,_=>by simp|w+1,i,h,hs=>by have hi:i<l.length:=fx;have h0:=hs 0 fx l[i] fy;obtain⟨e1,e2⟩:=AAa (l:=l) (set:=set) w (i+1) fx λj hj d hd=>hs (j+1) fx d (by grind);rw[bM hi,cP,h0,bg,e1,bb,h0];simp only[bE,aD,ag];rw[e2,show i+1+w=i+(w+1) by omega];exact⟨rfl,fx⟩
def AVl{r:Nat} (hv:Go.Utf8.valid r=true):Go.Utf8.encode (r:Int)=(if r<128 then⟨#[UInt8.ofNat r]⟩else if r<2048 then⟨#[UInt8.ofNat (0xC0+r / 64),UInt8.ofNat (0x80+r % 64)]⟩else if r<65536 then⟨#[UInt8.ofNat (0xE0+r / 4096),UInt8.ofNat (0x80+r / 64 % 64),UInt8.ofNat (0x80+r % 64)]⟩else⟨#[UInt8.ofNat (0xF0+r / 262144),UInt8.ofNat (0x80+r / 4096 % 64),UInt8.ofNat (0x80+r / 64 % 64),UInt8.ofNat (0x80+r % 64)]⟩:ByteArray):=by
 have e:(if Go.Utf8.valid r=true then(r:Int).toNat else Go.Utf8.runeError)=r:=by simp_all
 simp_all[Go.Utf8.encode]
def Afw{n:Nat} (h:n<64):128<=(UInt8.ofNat (0x80+n)).toNat:=by grind[UInt8.toNat_ofNat']
theorem enc2{r:Nat} (hv:Go.Utf8.valid r=true) (h1: ¬r<128) (h2:r<2048): ∃a b,Go.Utf8.encode (r:Int)=⟨#[a,b]⟩/\128<=b.toNat:=by rw[AVl hv,an h1,aq h2];exact⟨_,_,rfl,Afw (Nat.mod_lt _ fx)⟩
theorem enc3{r:Nat} (hv:Go.Utf8.valid r=true) (h1: ¬r<128) (h2: ¬r<2048) (h3:r<65536): ∃a b c,Go.Utf8.encode (r:Int)=⟨#[a,b,c]⟩/\128<=c.toNat:=by rw[AVl hv,an h1,an h2,aq h3];exact⟨_,_,_,rfl,Afw (Nat.mod_lt _ fx)⟩
theorem enc4{r:Nat} (hv:Go.Utf8.valid r=true) (h1: ¬r<128) (h2: ¬r<2048) (h3: ¬r<65536): ∃a b c d,Go.Utf8.encode (r:Int)=⟨#[a,b,c,d]⟩/\128<=d.toNat:=by rw[AVl hv,an h1,an h2,an h3];exact⟨_,_,_,_,rfl,Afw (Nat.mod_lt _ fx)⟩
theorem AvE{a b:UInt8}:(⟨#[a,b]⟩:ByteArray).data.toList=[a,b]:=rfl
theorem AvS{a b c:UInt8}:(⟨#[a,b,c]⟩:ByteArray).data.toList=[a,b,c]:=rfl
theorem AwD{a b c d:UInt8}:(⟨#[a,b,c,d]⟩:ByteArray).data.toList=[a,b,c,d]:=rfl
def HiT (u:B8):Prop:= ∃k c,u.length=k+2/\k<=2/\u[k+1]?=some c/\128<=c.toNat
theorem Aw3{a b:UInt8} (h:128<=b.toNat):HiT [a,b]:=⟨0,b,rfl,fx,rfl,h⟩
theorem AxP{a b c:UInt8} (h:128<=c.toNat):HiT [a,b,c]:=⟨1,c,rfl,fx,rfl,h⟩
theorem AxF{a b c d:UInt8} (h:128<=d.toNat):HiT [a,b,c,d]:=⟨2,d,rfl,fx,rfl,h⟩
def Awn{r:Nat} (hv:Go.Utf8.valid r=true) (h1: ¬r<128) (h:r<2048):HiT (Go.Utf8.encode (r:Int)).data.toList:=by grind[enc2,AvE,Aw3]
def AxB{r:Nat} (hv:Go.Utf8.valid r=true) (h1: ¬r<128) (h: ¬r<2048) (h':r<65536):HiT (Go.Utf8.encode (r:Int)).data.toList:=by grind[enc3,AvS,AxP]
def Awl{r:Nat} (hv:Go.Utf8.valid r=true) (h1: ¬r<128) (h: ¬r<2048) (h': ¬r<65536):HiT (Go.Utf8.encode (r:Int)).data.toList:=by grind[enc4,AwD,AxF]
def hiu{r:Nat} (hv:Go.Utf8.valid r=true) (h1: ¬r<128):HiT (Go.Utf8.encode (r:Int)).data.toList:=(Classical.em (r<2048)).elim (λh=>Awn hv h1 h) λh=>(Classical.em (r<65536)).elim (λh'=>AxB hv h1 h h') λh'=>Awl hv h1 h h'
def AeT (q:Int):H6 q=(Go.Utf8.encode q).data.toList:=by rw[H6]
def AXz{r:Nat} (hv:Go.Utf8.valid r=true) (h1: ¬r<128):HiT (H6 (r:Int)):=(AeT r).symm▸hiu hv h1
theorem AuS{q:Int} (h:0<=q) (k:q<55296\/(57343<q/\q<=1114111)):Cc N q=some true:=by
 unfold Cc;have h0:decide (0<=q)=true:=aG h;by_cases h':q<55296;·have h1:=aG h';simp only[AC,h0,h1,aD]
 ·have h1:=aO h';have h2:decide (57343<q)=true:=aG fx;have h3:decide (q<=1114111)=true:=aG fx;simp only[AC,h0,h1,h2,h3,aD,aj,aA]
def ARd{r:Nat} (hv:Go.Utf8.valid r=true):Cc N r=some true:=by unfold Go.Utf8.valid at hv;simp only[cK,av,aw]at hv;grind[AuS]
def Apw{q:Int}{u:B8} (hu:H6 q=u){k15:Unit->Option Int} (n s9:Nat) (w:wr .i64 ((u.length:Int)-1)=(s9:Int)){c x:UInt8} (Bp:([58,47]:B8)[s9]?=some x) (hc:u[s9]?=some c) (hne:(AJ x !=AJ c)=true){t:B8} (ht:sub ([58,47]:B8) (wr .i64 ((s9:Int)+1)) ((([58,47]:B8).length:Nat):Int)=some t) (hb:strings_IndexByte N t (AJ c)=some (-1)) (hlt:s9<2):Ay N [58,47] q k15 (n+1) (s9:Int)=some (-1):=by
 have e9:decide ((s9:Int)<((([58,47]:B8).length:Nat):Int))=true:=by simp only[aw,ag,ap];omega
 rw[Ay,aq e9];simp only[AC];rw[hu,w,Ei,Ei,Bp,aa,hc,aa,aq hne,ht,aa,hb,aa];rfl
def AiI{r:Nat}{k15:Unit->Option Int} (hr:128<=r) (hv:Go.Utf8.valid r=true) (hk:k15 ()=some (-1)) (n:Nat):Ay N [58,47] (r:Int) k15 (n+1) (wr .i64 (((H6 (r:Int)).length:Int)-1))=some (-1):=by
 obtain⟨k,c,e1,e2,e3,e4⟩:=AXz hv fx;have w:wr .i64 (((H6 (r:Int)).length:Int)-1)=((k+1:Nat):Int):=by grind[Aq]
 have hc:c≠47:=λe=>by simp_all
 generalize (r:Int)=q at *;rw[w];rcases (by omega:k=0\/¬k=0)with h0|h0;·subst h0;exact Apw (t:=[]) rfl n 1 w rfl e3 (by grind[bne,Ak7]) rfl (by rw[NA];rfl) fx
 ·rw[Ay,an (by simp only[aw,ag,ap];omega),hk]
def irh{r:Nat} (h0:decide (0<=(r:Int))=true) (h1:decide ((r:Int)<128)=false):CQ N [58,47] (r:Int)=if((r:Int)==65533)=true then BF N [58,47] (λ_=>some (-1)) N 0 else(Cc N r).bind λy12=>if y12=true then Ay N [58,47] r (λ_=>some (-1)) N (wr .i64 (((H6 r).length:Int)-1))else some (-1):=by generalize (r:Int)=q at *;unfold CQ;dsimp only[AC];rw[aq h0,h1,an fA]
def Ah4{r:Nat} (hr:128<=r) (hv:Go.Utf8.valid r=true) (hN:20<=N):CQ N [58,47] (r:Int)=some (-1):=by
 obtain⟨n,rfl⟩: ∃n,N=n+3:=⟨N-3,fx⟩;rw[irh (aG fx) (aO fx)];by_cases h:((r:Int)==65533)=true;·have d0:Cz ([58,47]:B8) 0=(58,1):=Kg (c:=58) rfl fA;have d1:Cz ([58,47]:B8) 1=(47,1):=Kg (c:=47) rfl fA;rw[aq h,BF,aq fA,d0,an fA];rw[BF,aq fA,show(0:Nat)+((58:Nat),(1:Nat)).2=1 from rfl,d1,an fA];rw[BF,an fA]
 ·rw[an h,ARd hv,aa,aq rfl];exact AiI hr hv rfl _
def Xf{l:B8} (hN:20<=N) (k24:Unit->Option Int): ∀(k i:Nat),i<=l.length->l.length-i<k->BZ N l [58,47] k24 k i=if((l.drop i).any ([58,47]:B8).contains)=true then some (((i+((l.drop i).takeWhile λc=>!([58,47]:B8).contains c).length:Nat):Int))else k24 ()
 |0,i,_,h=>by omega
 | k+1,i,hi,hk=>by
  rw[BZ];by_cases he:i<l.length;case neg=>rw[an (by grind),bI fx];rfl
  rw[aq (by grind)];have hget:l[i]?=some l[i]:=aQ he;by_cases hc:l[i].toNat<128
  ·rw[Kg hget hc];dsimp only;rw[AMP hc,aa,Kj,bM he,cP,bb];cases Bp:([58,47]:B8).contains l[i];·rw[an fA,Xf hN k24 k (i+1) fx fx];simp only[bg,bE,aD,ag];grind
   simp
  ·obtain⟨r,w,e1,e2,e3,e4,e5,e6,e7⟩:=AQV hget fx;rw[e1];dsimp only;rw[Ah4 e2 e4 hN,aa,an fA,Xf hN k24 k (i+w) fx fx];obtain⟨s1,s2⟩:=AAa (set:=[58,47]) w i e6 λj hj d hd=>by
    have:=e7 j hj d hd;have h1:d≠58:=λe=>by simp_all
    have h2:d≠47:=λe=>by simp_all
    grind
   grind
theorem Abo{l:B8} (hb:l.length<=1000000) (hN:20<=N):strings_IndexAny N l [58,47]=some (ZU [58,47] l):=by
 by_cases h:l.length>8;·exact X3 fA fA fA (λh'=>absurd h' fx) hb hN
 ·have hsh:strings_shouldUseASCIISet N (l.length:Int)=some (decide ((l.length:Int)>8)):=rfl;unfold strings_IndexAny ZU;rw[an fA,an fA];dsimp only[AC];rw[hsh,aa,an (by grind),Xf hN _ N 0 fx fx,aL];split<;>simp
end
end Go.VM
namespace Go.VM
section
variable{N:Nat}
def Akm{q:Int}{u:B8} (hu:H6 q=u){k15:Unit->Option Int} (n s9:Nat) (w:wr .i64 ((u.length:Int)-1)=(s9:Int)){c x:UInt8} (Bp:([13,10]:B8)[s9]?=some x) (hc:u[s9]?=some c) (hne:(AJ x !=AJ c)=true){t:B8} (ht:sub ([13,10]:B8) (wr .i64 ((s9:Int)+1)) ((([13,10]:B8).length:Nat):Int)=some t) (hb:strings_IndexByte N t (AJ c)=some (-1)) (hlt:s9<2):Ay N [13,10] q k15 (n+1) (s9:Int)=some (-1):=by
 have e9:decide ((s9:Int)<((([13,10]:B8).length:Nat):Int))=true:=by simp only[aw,ag,ap];omega
 rw[Ay,aq e9];simp only[AC];rw[hu,w,Ei,Ei,Bp,aa,hc,aa,aq hne,ht,aa,hb,aa];rfl
def AbX{r:Nat}{k15:Unit->Option Int} (hr:128<=r) (hv:Go.Utf8.valid r=true) (hk:k15 ()=some (-1)) (n:Nat):Ay N [13,10] (r:Int) k15 (n+1) (wr .i64 (((H6 (r:Int)).length:Int)-1))=some (-1):=by
 obtain⟨k,c,e1,e2,e3,e4⟩:=AXz hv fx;have w:wr .i64 (((H6 (r:Int)).length:Int)-1)=((k+1:Nat):Int):=by grind[Aq]
 have hc:c≠10:=λe=>by simp_all
 generalize (r:Int)=q at *;rw[w];rcases (by omega:k=0\/¬k=0)with h0|h0;·subst h0;exact Akm (t:=[]) rfl n 1 w rfl e3 (by grind[bne,Ak7]) rfl (by rw[NA];rfl) fx
 ·rw[Ay,an (by simp only[aw,ag,ap];omega),hk]
def Aw7{r:Nat} (h0:decide (0<=(r:Int))=true) (h1:decide ((r:Int)<128)=false):CQ N [13,10] (r:Int)=if((r:Int)==65533)=true then BF N [13,10] (λ_=>some (-1)) N 0 else(Cc N r).bind λy12=>if y12=true then Ay N [13,10] r (λ_=>some (-1)) N (wr .i64 (((H6 r).length:Int)-1))else some (-1):=by generalize (r:Int)=q at *;unfold CQ;dsimp only[AC];rw[aq h0,h1,an fA]
def Aal{r:Nat} (hr:128<=r) (hv:Go.Utf8.valid r=true) (hN:20<=N):CQ N [13,10] (r:Int)=some (-1):=by
 obtain⟨n,rfl⟩: ∃n,N=n+3:=⟨N-3,fx⟩;rw[Aw7 (aG fx) (aO fx)];by_cases h:((r:Int)==65533)=true;·have d0:Cz ([13,10]:B8) 0=(13,1):=Kg (c:=13) rfl fA;have d1:Cz ([13,10]:B8) 1=(10,1):=Kg (c:=10) rfl fA;rw[aq h,BF,aq fA,d0,an fA];rw[BF,aq fA,show(0:Nat)+((13:Nat),(1:Nat)).2=1 from rfl,d1,an fA];rw[BF,an fA]
 ·rw[an h,ARd hv,aa,aq rfl];exact AbX hr hv rfl _
def VH{l:B8} (hN:20<=N) (k24:Unit->Option Int): ∀(k i:Nat),i<=l.length->l.length-i<k->BZ N l [13,10] k24 k i=if((l.drop i).any ([13,10]:B8).contains)=true then some (((i+((l.drop i).takeWhile λc=>!([13,10]:B8).contains c).length:Nat):Int))else k24 ()
 |0,i,_,h=>by omega
 | k+1,i,hi,hk=>by
  rw[BZ];by_cases he:i<l.length;case neg=>rw[an (by grind),bI fx];rfl
  rw[aq (by grind)];have hget:l[i]?=some l[i]:=aQ he;by_cases hc:l[i].toNat<128
  ·rw[Kg hget hc];dsimp only;rw[AMP hc,aa,Kj,bM he,cP,bb];cases Bp:([13,10]:B8).contains l[i];·rw[an fA,VH hN k24 k (i+1) fx fx];simp only[bg,bE,aD,ag];grind
   simp
  ·obtain⟨r,w,e1,e2,e3,e4,e5,e6,e7⟩:=AQV hget fx;rw[e1];dsimp only;rw[Aal e2 e4 hN,aa,an fA,VH hN k24 k (i+w) fx fx];obtain⟨s1,s2⟩:=AAa (set:=[13,10]) w i e6 λj hj d hd=>by
    have:=e7 j hj d hd;have h1:d≠13:=λe=>by simp_all
    have h2:d≠10:=λe=>by simp_all
    grind
   grind
theorem AWi{l:B8} (hb:l.length<=1000000) (hN:20<=N):strings_IndexAny N l [13,10]=some (ZU [13,10] l):=by
 by_cases h:l.length>8;·exact X3 fA fA fA (λh'=>absurd h' fx) hb hN
 ·have hsh:strings_shouldUseASCIISet N (l.length:Int)=some (decide ((l.length:Int)>8)):=rfl;unfold strings_IndexAny ZU;rw[an fA,an fA];dsimp only[AC];rw[hsh,aa,an (by grind),VH hN _ N 0 fx fx,aL];split<;>simp
end
end Go.VM
namespace Go.VM
section
variable{N:Nat}
def Yr (set:B8) (hs:set.length<=1000) (k2:Unit->Option Int) (n:Int) (h:k2 ()=some n): ∀(l:B8) (i:Nat),((i+l.length:Nat):Int)=n->GI N set k2 l (i:Int)=some ((i+(l.takeWhile λc=>!set.contains c).length:Nat):Int)
 |[],i,hn=>by simp_all[GI]
 |c::l,i,hn=>by
  rw[GI,AXK _ _ hs,aa,bb];cases hc:set.contains c;·simp only[ag]at hn;rw[an fA,show(i:Int)+1=((i+1:Nat):Int) by simp,Yr set hs k2 n h l (i+1) fx];simp only[bE,aD,ag];grind
  ·simp
theorem OH (l set:B8) (hs:set.length<=1000) (hb:l.length<=2^60):BQ N l set=some (((l.takeWhile λc=>!set.contains c).length:Nat):Int):=by unfold BQ;rw[AC,AU (by grind[AL]),show(0:Int)=((0:Nat):Int)from rfl,Yr set hs _ _ rfl l 0 fy];simp
section
variable{s sg W F FR P EX:B8}
end
end
end Go.VM
namespace Go.VM
section
variable{N:Nat}
def preB (p l:B8):Bool:=if p.length<=l.length then l.take p.length==p else false
theorem AUO (p l:B8):BR N l p=some (preB p l):=by
 unfold BR preB;by_cases h:p.length<=l.length;·rw[aq (by grind),aq h,show(0:Int)=((0:Nat):Int)from rfl,Av l 0 _ (aJ _) h,aa];simp
 ·rw[an (by grind),an h]
def UG (p l:B8):strings_HasPrefix N l p=some (preB p l):=by grind[strings_HasPrefix,AUO]
def Wn (p l:B8):EK N l p=some (preB p l):=by
 unfold EK preB;by_cases h:p.length<=l.length;·rw[aq (by grind),aq h,show(0:Int)=((0:Nat):Int)from rfl,Av l 0 _ (aJ _) h,aa];simp
 ·rw[an (by grind),an h]
def Po{p l:B8} (h:preB p l=true): ∃t,l=p++t:=by
 unfold preB at h;split at h;·have:=bc.1 h;grind[List.take_append_drop]
 grind
def Bw{l:B8}{n:Nat} (h:n<=l.length):sub l (n:Int) (l.length:Int)=some (l.drop n):=by rw[Av l n l.length h (au _),aZ fy]
def AR4 (p l:B8):strings_TrimPrefix N l p=some (if preB p l=true then l.drop p.length else l):=by
 unfold strings_TrimPrefix DY;rw[AUO,aa];by_cases h:preB p l=true;·obtain⟨t,rfl⟩:=Po h;rw[aq h,aq h,Bw fy,aa,aa]
 simp_all
def AYp (p l:B8):strings_CutPrefix N l p=some (if preB p l=true then(l.drop p.length,true)else(l,false)):=by
 unfold strings_CutPrefix Dw;rw[AUO,aa];by_cases h:preB p l=true;·obtain⟨t,rfl⟩:=Po h;rw[aq h,aq h,Bw fy,aa,aa]
 simp_all
def PU (l:B8):Nat->Option Nat|0=>none|n+1=>if l[n]?=some 47 then some n else PU l n
def Wv{l:B8}{i:Nat}: ∀ {n:Nat},PU l n=some i->i<n
 |0,h=>by cases h
 |n+1,h=>by
  rw[PU]at h;split at h;·grind
  ·have:=Wv h;omega
def b47 (c:UInt8):(AJ c==47)=decide (c=47):=by have:=Cq (f:=λn=>((n:Int)==47)) (g:=λn=>decide (UInt8.ofNat n=47)) (by kernel_rfl) c;simp only[ce]at this;exact this
def ACu{l:B8} (hb:l.length<=1000000): ∀(n k:Nat),n<=l.length->n<k->Ai N l 47 (λ_=>some (-1)) k ((n:Int)-1)=some (match PU l n with|some i=>(i:Int)|none=> -1)
 |n,0,_,h=>by omega
 |0,k+1,_,_=>by rw[Ai,an fA];rfl
 |n+1,k+1,hn,hk=>by
  rw[Ai,aq fy,show((n+1:Nat):Int)-1=(n:Int) by omega,Ei,aQ fx,aa,b47,PU,aQ fx];by_cases h:l[n]=47;·simp_all
  ·rw[aO h,an fA,an (by grind),Aq fx];exact ACu hb n k fx fx
def ADW (l:B8) (hb:l.length<=1000000) (hN:l.length<N):strings_LastIndexByte N l 47=some (match PU l l.length with|some i=>(i:Int)|none=> -1):=by unfold strings_LastIndexByte Cn;rw[AC,Aq fx,ACu hb l.length N (au _) hN];rfl
def KS (l:B8):B8:=match PU l l.length with|some i=>l.take i|none=>[]
def AAc{l:B8} (hb:l.length<=1000000): ∀(n k:Nat),n<=l.length->n<k->Ea N l (λ_=>some []) k ((n:Int)-1)=some (match PU l n with|some i=>l.take i|none=>[])
 |n,0,_,h=>by omega
 |0,k+1,_,_=>by rw[Ea,an fA];rfl
 |n+1,k+1,hn,hk=>by
  rw[Ea,aq fy,show((n+1:Nat):Int)-1=(n:Int) by omega,Ei,aQ fx,aa,b47,PU,aQ fx];by_cases h:l[n]=47;·rw[aG h,aq rfl,aq (by rw[h]),show(0:Int)=((0:Nat):Int)from rfl,Av l 0 n (aJ _) fx,aa];simp
  ·rw[aO h,an fA,an (by grind),Aq fx];exact AAc hb n k fx fx
def AD4 (l:B8) (hb:l.length<=1000000) (hN:l.length<N):KE N l=some (KS l):=by unfold KE KS;rw[AC,Aq fx,AAc hb l.length N (au _) hN]
def OC (s:B8):Nat:=1+((s.drop 1).takeWhile (· !=47)).length
def KQ:Nat->B8->B8->B8|0,_,_=>[]|k+1,s,out=>if s=[]then out else if preB [46,46,47] s=true then KQ k (s.drop 3) out else if preB [46,47] s=true then KQ k (s.drop 2) out else if preB [47,46,47] s=true then KQ k (s.drop 2) out else if s=[47,46]then KQ k [47] out else if preB [47,46,46,47] s=true then KQ k (s.drop 3) (KS out)else if s=[47,46,46]then KQ k [47] (KS out)else if s=[46]\/s=[46,46]then KQ k [] out else KQ k (s.drop (OC s)) (out++s.take (OC s))
def UZ (l:B8):(KS l).length<=l.length:=by grind[KS]
def AfY{s:B8} (h:s≠ []):OC s<=s.length:=by cases s with|nil=>grind|cons c t=>grind[OC,Ri,List.drop_one,List.tail_cons,List.length_cons]
def Qr{p l:B8} (h:preB p l=true):p.length<=l.length:=by obtain⟨t,rfl⟩:=Po h;simp
def KJ{M:Nat} (hM:M<=100000) (hN:M+100<=N) (k2:B8->Option B8): ∀(k:Nat) (s out:B8),s.length<k->s.length+out.length<=M->Ak N k2 k s out=k2 (KQ k s out)
 |0,s,out,h,_=>by omega
 | k+1,s,out,hk,hb=>by
  rw[Ak,KQ];by_cases h0:s=[];·simp_all
  have hpos:0<s.length:=dy.2 h0;have hso:=UZ out;rw[an (by grind),an h0,Wn,aa];by_cases h1:preB [46,46,47] s=true;·have:=Qr h1;simp only[ag,ap]at this;rw[aq h1,aq h1,show(3:Int)=((3:Nat):Int)from rfl,Bw fx,aa];exact KJ hM hN k2 k _ out (by grind) (by grind)
  rw[an h1,an h1,Wn,aa];by_cases h2:preB [46,47] s=true;·have:=Qr h2;simp only[ag,ap]at this;rw[aq h2,aq h2,show(2:Int)=((2:Nat):Int)from rfl,Bw fx,aa];exact KJ hM hN k2 k _ out (by grind) (by grind)
  rw[an h2,an h2,Wn,aa];by_cases h3:preB [47,46,47] s=true;·have:=Qr h3;simp only[ag,ap]at this;rw[aq h3,aq h3,show(2:Int)=((2:Nat):Int)from rfl,Bw fx,aa];exact KJ hM hN k2 k _ out (by grind) (by grind)
  rw[an h3,an h3];by_cases h4:s=[47,46];·rw[aq (by grind),aq h4];have:=bu List.length h4;simp only[ag,ap]at this;exact KJ hM hN k2 k _ out (by grind) (by grind)
  rw[an (by grind),an h4,Wn,aa];by_cases h5:preB [47,46,46,47] s=true;·have:=Qr h5;simp only[ag,ap]at this;rw[aq h5,aq h5,show(3:Int)=((3:Nat):Int)from rfl,Bw fx,aa,AD4 out fx fx,aa];exact KJ hM hN k2 k _ _ (by grind) (by grind)
  rw[an h5,an h5];by_cases h6:s=[47,46,46];·rw[aq (by grind),aq h6,AD4 out fx fx,aa];have:=bu List.length h6;simp only[ag,ap]at this;exact KJ hM hN k2 k _ _ (by grind) (by grind)
  rw[an (by grind),an h6];dsimp only[AC];have hdd:(if(s==([46]:B8))=true then Ak N k2 k [] out else if(s==([46,46]:B8))=true then Ak N k2 k [] out else(sub s 1 (s.length:Int)).bind λx26=>(BQ N x26 ([47]:B8)).bind λy27=>(sub s (wr .i64 (1+y27)) (s.length:Int)).bind λx29=>(sub s 0 (wr .i64 (1+y27))).bind λx30=>grd (AL (out.length+x30.length)) (Ak N k2 k x29 (out++x30)))=k2 (if s=[46]\/s=[46,46]then KQ k [] out else KQ k (s.drop (OC s)) (out++s.take (OC s))):=by
   have hrec:=KJ hM hN k2 k [] out (by grind) (by grind);by_cases h7:s=[46];·simp_all
   by_cases h8:s=[46,46];·simp_all
   have hw:(λc:UInt8=>!([47]:B8).contains c)=(λc=>c !=47):=by grind
   have hsl:=AfY h0;rw[an (by grind),an (by grind),an (by grind),show(1:Int)=((1:Nat):Int)from rfl,Bw fx,aa,OH _ [47] fA (by grind),aa,hw];have e:wr .i64 (((1:Nat):Int)+(((s.drop 1).takeWhile (λc=>c !=47)).length:Int))=((OC s:Nat):Int):=by grind[OC,Aq]
   rw[e,Bw hsl,aa,show(0:Int)=((0:Nat):Int)from rfl,Av s 0 _ (aJ _) hsl,aa,BU (by grind),aL,bo];have h1s:1<=OC s:=by grind[OC]
   exact KJ hM hN k2 k _ _ (by grind) (by grind)
  simp_all
def AoS (s:B8) (hN:20000<=N) (hb:s.length<=16400):CY N s=some (KQ N s []):=by unfold CY;rw[AC,KJ (M:=16400) fx fx _ N s [] fx fB]
def Wl (s:B8) (hN:100000<=N) (hb:s.length<=40000):CY N s=some (KQ N s []):=by unfold CY;rw[AC,KJ (M:=40000) fx fx _ N s [] fx fB]
end
end Go.VM
namespace Go.VM
section
variable{N:Nat}
def Cy (p:B8):B8->Option Nat|[]=>if p=[]then some 0 else none|x::l=>if p.isPrefixOf (x::l)=true then some 0 else(Cy p l).map (· +1)
def OQ{p:B8}: ∀ {l:B8}{k:Nat},Cy p l=some k->k+p.length<=l.length/\(l.drop k).take p.length=p
 |[],k,h=>by
  unfold Cy at h;split at h;·rename_i e;cases h;subst e;simp
  ·cases h
 |x::l,k,h=>by
  unfold Cy at h;split at h;·rename_i e;cases h;obtain⟨t,ht⟩:=dk.1 e;rw[<-ht];simp
  ·cases hf:Cy p l with|none=>rw[hf]at h;cases h|some i=>rw[hf]at h;cases h;obtain⟨h1,h2⟩:=OQ hf;exact⟨by simp only[ag];omega,by simpa using h2⟩
def AjO{p:B8} (l:B8): ∀ {i:Nat},i<l.length->Cy p (l.drop i)=if p.isPrefixOf (l.drop i)=true then some 0 else(Cy p (l.drop (i+1))).map (· +1):=by intro i hi;rw[bM hi];rfl
def Tg{p:B8}: ∀ {l:B8},l.length<p.length->Cy p l=none
 |[],h=>by unfold Cy;rw[an (by intro e;subst e;simp at h)]
 |x::l,h=>by
  unfold Cy;rw[an,Tg (by simp only[ag]at h;omega)];·rfl
  ·intro e;have:=(dk.1 e).length_le;omega
def Qm (p l:B8):Int:=match Cy p l with|some k=>(k:Int)|none=> -1
def U9 (p:B8): ∀l:B8,Go.Lib.index l p=Qm p l
 |[]=>by unfold Qm Cy Go.Lib.index;cases p<;>rfl
 |x::l=>by
  unfold Go.Lib.index;rw[U9 p l];unfold Qm;rw[show Cy p (x::l)=if p.isPrefixOf (x::l)=true then some 0 else(Cy p l).map (· +1)from rfl];by_cases h:p.isPrefixOf (x::l)=true;·rw[aq h,aq h];rfl
  ·rw[an h,an h];cases Cy p l with|none=>rfl|some k=>simp only[aK];rw[an (by grind)];omega
def Anu{p l:B8} (hp:2<=p.length) (hb:l.length<=1000000000):strings_Index N l p=some (Qm p l):=by unfold strings_Index Az;rw[an fB,AU fx,aa,U9]
def AC2{p l:B8} (hp:1<=p.length) (hb:l.length+p.length<=1000000000) (k2:Unit->Option Int): ∀(m i k:Nat),l.length-i=m->i<=l.length->l.length-i<k->I7 N l p k2 k (i:Int)=match Cy p (l.drop i)with|some j=>some (((i+j:Nat):Int))|none=>k2 ()
 | m,i,k+1,hm,hi,hk=>by
  have w1:wr .i64 ((i:Int)+(p.length:Int))=((i+p.length:Nat):Int):=Aq fx;have w2:wr .i64 ((i:Int)+1)=((i+1:Nat):Int):=Aq fx;rw[I7,w1];by_cases h:i+p.length<=l.length
  ·rw[aq fB,Av l i (i+p.length) fx h,aa,show i+p.length-i=p.length by omega];have hi2:i<l.length:=fx;rw[AjO l hi2];have e:((l.drop i).take p.length==p)=p.isPrefixOf (l.drop i):=by rw[Bool.eq_iff_iff,bc,dk];exact⟨λh=>by rw[<-h];exact List.take_prefix _ _,λh=>(eS.1 h).symm⟩
   rw[e];by_cases h2:p.isPrefixOf (l.drop i)=true;·rw[aq h2,aq h2];simp
   ·rw[an h2,an h2,w2];cases m with|zero=>omega|succ m=>rw[AC2 hp hb k2 m (i+1) k fx fx fx];cases Cy p (l.drop (i+1))with|none=>rfl|some j=>simp only[aK];congr 2;omega
  ·rw[an fB,Tg (by rw[aN];omega)]
def Tq{p l:B8} (hp:1<=p.length) (hb:l.length+p.length<=1000000000) (hN:l.length<N):Gm N l p=some (Qm p l):=by unfold Gm;rw[AC];have:=AC2 (N:=N) hp hb (λ_=>some (-1)) l.length 0 N fx fx fx;rw[show((0:Nat):Int)=0 from rfl]at this;rw[this,aL];unfold Qm;cases Cy p l with|none=>rfl|some j=>simp
def BV:B8:=[13,10]
def I6 (l:B8):B8×B8×Bool:=match Cy BV l with|some k=>(l.take k,l.drop (k+2),true)|none=>(l,[],false)
def Ap1{l:B8} (hb:l.length<=1000000000):strings_Cut N l [13,10]=some (I6 l):=by
 unfold strings_Cut EI;have hi:Az N l [13,10]=some (Qm BV l):=by unfold Az;rw[an fA,AU fx,U9];rfl
 rw[hi,aa];unfold Qm I6;cases h:Cy BV l with|none=>rw[an fy];rfl|some k=>have h1:=(OQ h).1;simp only[BV,ag,ap]at h1;have w:wr .i64 ((k:Int)+(([13,10]:B8).length:Int))=((k+2:Nat):Int):=Aq (by simp only[ag,ap];omega);rw[aq fy,show(0:Int)=((0:Nat):Int)from rfl,Av l 0 k fx fx,aa,w,Bw fx,aa,aa];simp
def AQ6: ∀l:B8,Cy BV (l++BV)=some ((Cy BV l).getD l.length)
 |[]=>rfl
 |[x]=>by
  show(if BV.isPrefixOf [x,13,10]=true then some 0 else(Cy BV [13,10]).map (· +1))=_;have h:BV.isPrefixOf [x,13,10]=false:=by simp[BV,List.isPrefixOf]
  rw[h];have h2:Cy BV [x]=none:=Tg (by simp[BV]);rw[h2];rfl
 |x::y::l=>by
  have ih:=AQ6 (y::l);have e:BV.isPrefixOf (x::y::l++BV)=BV.isPrefixOf (x::y::l):=by simp[BV,List.isPrefixOf]
  rw[show Cy BV (x::y::l++BV)=if BV.isPrefixOf (x::y::l++BV)=true then some 0 else(Cy BV (y::l++BV)).map (· +1)from rfl,e,ih,show Cy BV (x::y::l)=if BV.isPrefixOf (x::y::l)=true then some 0 else(Cy BV (y::l)).map (· +1)from rfl];by_cases h:BV.isPrefixOf (x::y::l)=true;·rw[aq h,aq h];rfl
  ·rw[an h,an h];cases Cy BV (y::l)<;>rfl
end
end Go.VM
namespace Go.VM
section
variable{N:Nat}
def AI7: ∀(l:B8) (n:Nat),n<=VA n l|[],n=>au _|c::l,n=>by have:=AI7 l (n * 16+Fp c.toNat);rw[VA];omega
def WX (m:Nat) (l:B8):Int×Int:=if l=[]then(0,3)else if l.all Lr=true then(if VA 0 l<=m then(((VA 0 l:Nat):Int),0)else(0,4))else(0,1)
def Ajs{m:Nat} (hm:m<=18446744073709551615) (k9:Int->Option (Int×Int)): ∀(l:B8) (n:Nat),l.all Lr=true->n<=m->BM N 16 (m:Int) k9 l (n:Int)=if VA n l<=m then k9 ((VA n l:Nat):Int)else some (0,4)
 |[],n,_,hn=>by rw[BM,VA,aq hn]
 |c::l,n,h,hn=>by
  simp only[bl,av]at h;have hd:=Uc c h.1;have hge:=AI7 l (n * 16+Fp c.toNat);rw[BM,AX7 c h.1,aa,AC,AU fA];have w3:wr .u64 (18446744073709551615-((Fp c.toNat:Nat):Int))=18446744073709551615-((Fp c.toNat:Nat):Int):=Fx fx;rw[w3,bv fx,Fx (n:=(18446744073709551615-((Fp c.toNat:Nat):Int)) / 16) fx,VA];by_cases c1:(n:Int)>(18446744073709551615-((Fp c.toNat:Nat):Int)) / 16;·rw[aq (aG c1),an fx];rfl
  have w1:wr .u64 ((n:Int) * 16)=((n * 16:Nat):Int):=by rw[Fx fx];omega
  have w2:wr .u64 (((n * 16:Nat):Int)+((Fp c.toNat:Nat):Int))=((n * 16+Fp c.toNat:Nat):Int):=by rw[Fx fx];omega
  rw[an (by simp only[aw];exact c1),w1,w2];by_cases c2:n * 16+Fp c.toNat<=m;·have c3: ¬(((n * 16+Fp c.toNat:Nat):Int)>(m:Int)):=fx;rw[aO c3];simp only[aj,aA];exact Ajs hm k9 l _ h.2 c2
  ·have c3:(((n * 16+Fp c.toNat:Nat):Int)>(m:Int)):=fx;rw[aG c3,an fx];rfl
def Als{m:Nat} (hm:m<=18446744073709551615) (hm9:15<=m) (k9:Int->Option (Int×Int)): ∀(l:B8) (n:Nat),l.all Lr=true->n<=m->Ce N 16 (m:Int) k9 l (n:Int)=if VA n l<=m then k9 ((VA n l:Nat):Int)else some (0,4)
 |[],n,_,hn=>by rw[Ce,VA,aq hn]
 | c::l,n,h,hn=>by
  simp only[bl,av]at h;have hd:=Uc c h.1;have hge:=AI7 l (n * 16+Fp c.toNat);rw[Ce];simp only[AC];have hv:=Aok c h.1;have key: ∀v:Int,v=((Fp c.toNat:Nat):Int)->(grd ((16:Int)≠0) (if decide ((n:Int)>wr .u64 ((m:Int).tdiv 16))=true then if true=true then(some (0,4):Option (Int×Int))else Ce N 16 (m:Int) k9 l (wr .u64 (wr .u64 ((n:Int) * 16)+v))else if decide (wr .u64 ((n:Int) * 16)>wr .u64 ((m:Int)-v))=true then if true=true then some (0,4)else Ce N 16 (m:Int) k9 l (wr .u64 (wr .u64 ((n:Int) * 16)+v))else if decide (v>(m:Int))=true then some (0,4)else Ce N 16 (m:Int) k9 l (wr .u64 (wr .u64 ((n:Int) * 16)+v))))=if VA (n * 16+Fp c.toNat) l<=m then k9 ((VA (n * 16+Fp c.toNat) l:Nat):Int)else some (0,4):=by
   rintro v rfl;rw[AU fA,bv fx,Fx (n:=(m:Int) / 16) fx,Fx (n:=(m:Int)-((Fp c.toNat:Nat):Int)) fx];by_cases c1:(n:Int)>(m:Int) / 16;·rw[aq (aG c1),aq rfl,an fx]
   have w1:wr .u64 ((n:Int) * 16)=((n * 16:Nat):Int):=by rw[Fx fx];omega
   rw[an (by simp only[aw];exact c1),w1];by_cases c2:((n * 16:Nat):Int)>(m:Int)-((Fp c.toNat:Nat):Int);·rw[aq (aG c2),aq rfl,an fx]
   have w2:wr .u64 (((n * 16:Nat):Int)+((Fp c.toNat:Nat):Int))=((n * 16+Fp c.toNat:Nat):Int):=by rw[Fx fx];omega
   rw[an (by simp only[aw];exact c2),an (by simp only[aw];omega),w2];exact Als hm hm9 k9 l _ h.2 fx
  rw[VA];by_cases hc:AJ c>57;·simp only[hc,decide_true,aD]at hv⊢;exact key _ hv
  ·simp only[hc,ek,aj,aA]at hv⊢;exact key _ hv
def Aj2{m:Nat} (hm:m<=18446744073709551615) (l:B8) (hb:l.length<=2^60):OU N l (m:Int)=some (WX m l):=by
 unfold OU Fb WX;by_cases h:l=[];·subst h;rfl
 ·rw[an (by simpa using h),an h];simp only[AC];rw[BU fx,BU fx,ArA];by_cases h1:l.all Lr=true;·rw[aq h1,aq h1,show(0:Int)=((0:Nat):Int)from rfl,Ajs hm _ l 0 h1 fx];split<;>rfl
  ·rw[an h1,an h1];rfl
def Ajg{m:Nat} (hm:m<=18446744073709551615) (hm9:15<=m) (l:B8) (hb:l.length<=2^60):Ps N l (m:Int)=some (WX m l):=by
 unfold Ps JZ WX;by_cases h:l=[];·subst h;rfl
 ·rw[an (by simpa using h),an h];simp only[AC];rw[BU fx,BU fx,Aqw];by_cases h1:l.all Lr=true;·rw[aq h1,aq h1,show(0:Int)=((0:Nat):Int)from rfl,Als hm hm9 _ l 0 h1 fx];split<;>rfl
  ·rw[an h1,an h1];rfl
end
end Go.VM
namespace Go.VM
section
variable{N:Nat}
def ADY (l:B8) (hb:l.length<=2^60) (k2:List Int->Option B8): ∀(t pre:B8),l=pre++t->GY N l k2 t (pre.length:Int) (List.map AJ (pre.map E9)++List.map AJ t)=k2 (List.map AJ (l.map E9))
 |[],pre,h=>by grind[GY]
 | c::t,pre,h=>by
  have hlen:pre.length<l.length:=by grind
  have hc:=c.toNat_lt;have next:=ADY l hb k2 t (pre++[c]) (by grind);rw[<-Aj5]at next;have hi:idx (List.map AJ (pre.map E9)++List.map AJ (c::t)) (pre.length:Int)=some (AJ c):=by grind[Uh,List.map,AJ,E9]
  have hset:(List.map AJ (pre.map E9)++List.map AJ (c::t)).set pre.length (AJ (E9 c))=List.map AJ ((pre++[c]).map E9)++List.map AJ t:=fy;rw[GY];dsimp only[AC];rw[AU fx,hi,aa];by_cases h1:65<=c.toNat/\c.toNat<=90
  ·have e:E9 c=UInt8.ofNat (c.toNat+32):=by simp_all[E9,Af0]
   have e2:AJ (E9 c)=wr .u8 (AJ c+32):=by grind[AQG,AJ,toNat_ofNat]
   rw[aq (by have:=MI c;grind),aq (by have:=MI c;grind),AU fx,aa,AU (by simp<;>omega),<-e2];simp_all
  ·have e:E9 c=c:=by unfold E9 Af0;rw[an h1];simp
   have e3:List.map AJ ((pre++[c]).map E9)++List.map AJ t=List.map AJ (pre.map E9)++List.map AJ (c::t):=by grind
   rw[e3]at next;by_cases h2:65<=c.toNat;·rw[aq (by have:=MI c;grind),an (by have:=MI c;grind)];omega
   ·rw[an (by have:=MI c;grind),an fA];omega
def Pt (l:B8) (hb:l.length<=2^60):Ee N l=some (l.map E9):=by unfold Ee;rw[AC,AU (by grind[AL])];have:=ADY (N:=N) l hb (λj1=>grd (l.length<=j1.length/\AL l.length) (some (List.map FX (List.take l.length j1)))) l [] rfl;simp only[cp,bk,ap]at this;rw[show(0:Int)=((0:Nat):Int)from rfl,this,AU (by grind[AL]),aZ fy,QO]
def Xa (a b:B8) (ha:a.length<=2^60) (hb:b.length<=2^60):JX N a b=some (a.map E9==b.map E9):=by unfold JX;rw[lower_eq a ha,aa,lower_eq b hb,aa]
def Xk (a b:B8) (ha:a.length<=2^60) (hb:b.length<=2^60):JU N a b=some (a.map E9==b.map E9):=by unfold JU;rw[Pt a ha,aa,Pt b hb,aa]
def Qq (l:B8):B8×Int:=if l=[]then([],3)else if l.length>253 then([],5)else if(AXN l||U0 l)=true then(l.map E9,0)else([],50)
def AiD (l:B8):QV N l=some (Qq l):=by
 unfold QV Qq;by_cases h:l=[];·grind
 rw[an (by grind),an h];by_cases h2:l.length>253;·rw[aq (by simp only[aw];omega),aq h2]
 rw[an (by simp only[aw];omega),an h2];dsimp only[AC];rw[Aou l fx,aa,AlK l fx,aa,Pt l fx,aa];cases AXN l<;>cases U0 l<;>rfl
end
end Go.VM
namespace Go.VM
section
variable{N:Nat}
theorem TP (m:Nat) (l:B8):0<=(Du m l).1/\(Du m l).1<=m:=by grind[Du]
def Sm (l:B8):Int×Int:=if((Du 65535 l).2 !=0||(Du 65535 l).1==0)=true then(0,51)else((Du 65535 l).1,0)
def Afp (l:B8) (hb:l.length<=2^60):Rm N l=some (Sm l):=by have:=TP 65535 l;unfold Rm Sm;rw[show(65535:Int)=((65535:Nat):Int)from rfl,VT fA l hb,aa];dsimp only[AC];rw[Aq fx];cases (Du 65535 l).2 !=0<;>cases (Du 65535 l).1==0<;>rfl
def Ajt (l:B8) (hb:l.length<=2^60):QG N l=some (Sm l):=by have:=TP 65535 l;unfold QG Sm;rw[show(65535:Int)=((65535:Nat):Int)from rfl,AAk fA fA l hb,aa];dsimp only[AC];rw[Aq fx];cases (Du 65535 l).2 !=0<;>cases (Du 65535 l).1==0<;>rfl
def hpS (l:B8):ApiHostPort×Int:=if((Qq (BI 58 l).1).2 !=0)=true then(⟨[],0⟩,(Qq (BI 58 l).1).2)else if(BI 58 l).2.2=true then(if((Sm (BI 58 l).2.1).2 !=0)=true then(⟨[],0⟩,(Sm (BI 58 l).2.1).2)else(⟨(Qq (BI 58 l).1).1,if((Sm (BI 58 l).2.1).1==443)=true then 0 else(Sm (BI 58 l).2.1).1⟩,0))else(⟨(Qq (BI 58 l).1).1,0⟩,0)
theorem Tp{c:UInt8}: ∀l:B8,l.contains c=false->l.takeWhile (· !=c)=l
 |[],_=>rfl
 |x::t,h=>by
  rw[bC,Bool.or_eq_false_iff]at h;have e:(x !=c)=true:=by simp only[eZ,eN];grind
  rw[bb,e,aq rfl,Tp t h.2]
def At9 (l:B8) (hb:l.length<=1000000):Mw N l=some (hpS l):=by
 have hw:(λc:UInt8=>!([58]:B8).contains c)=(λc=>c !=58):=by grind
 have hle:=Ri (· !=(58:UInt8)) l;have h0:sub l 0 ((l.takeWhile (· !=(58:UInt8))).length:Int)=some (l.takeWhile (· !=(58:UInt8))):=by have:=Av l 0 _ (aJ _) hle;rw[aL,bo,Ho]at this;omega
 unfold Mw hpS;rw[OH l [58] fA fx,aa,hw,h0,aa,AiD,aa];unfold BI;cases hc:l.contains 58
 ·have hall:l.takeWhile (· !=(58:UInt8))=l:=by grind[Tp]
  simp only[aj,aA];rw[hall];by_cases h:((Qq l).2 !=0)=true<;>simp_all[Qq]
 ·have hlt:=RX hc;have hd:l.drop ((l.takeWhile (· !=(58:UInt8))).length+1)=(l.dropWhile (· !=(58:UInt8))).drop 1:=by grind[List.drop_drop,List.takeWhile_append_dropWhile,List.drop_left]
  simp only[aD];by_cases h:((Qq (l.takeWhile (· !=(58:UInt8)))).2 !=0)=true;·grind
  ·rw[an h,an h,an (by grind)];rw[show wr .i64 (((l.takeWhile (· !=(58:UInt8))).length:Int)+1)=(((l.takeWhile (· !=(58:UInt8))).length+1:Nat):Int) by grind[Aq],Av l _ _ fx fx,aa,hd,aZ (by have:=bu List.length hd;grind),Ajt _ (by grind[List.length_drop,List.dropWhile_sublist]),aa];dsimp only[AC];by_cases hp:((Sm ((l.dropWhile (· !=(58:UInt8))).drop 1)).2 !=0)=true;·simp_all
   ·rw[an hp,an hp];split<;>rfl
end
end Go.VM
