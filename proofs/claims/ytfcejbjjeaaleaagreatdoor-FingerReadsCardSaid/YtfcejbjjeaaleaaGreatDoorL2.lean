import Derived.Test.YtfcejbjjeaaleaaGreatDoorL1
set_option linter.defProp false
set_option linter.unusedVariables false
set_option linter.unusedSimpArgs false
namespace Go.VM
section
variable{N:Nat}
def Nr:B8->Option Nat |x::y::a::b::c::d::_=>if x=92/\y=117/\[a,b,c,d].all KC=true then some (ACe 0 [a,b,c,d])else none|_=>none
theorem Ud{t:B8} (h:t.length<6):Nr t=none:=by match t,h with |[],_=>rfl|[_],_=>rfl|[_,_],_=>rfl|[_,_,_],_=>rfl|[_,_,_,_],_=>rfl|[_,_,_,_,_],_=>rfl|_::_::_::_::_::_::_,h=>simp at h;omega
def six{t:B8} (h: ¬t.length<6): ∃x y a b c d r,t=x::y::a::b::c::d::r:=by match t,h with |x::y::a::b::c::d::r,_=>simp|[],h=>grind|[_],h=>grind|[_,_],h=>grind|[_,_,_],h=>grind|[_,_,_,_],h=>grind|[_,_,_,_,_],h=>simp at h
def AP4 (l:B8):(AQ1 l).2=if l.all KC=true then 0 else 1:=by unfold AQ1;split<;>rfl
def AOz (l:B8):(AQ1 l).1=if l.all KC=true then((ACe 0 l:Nat):Int)else 0:=by unfold AQ1;split<;>rfl
def Xr{l t:B8}{i:Nat} (ht:l.drop i=t) (hi:i<=l.length) (hb:l.length<=2^50):J9 N l (i:Int)=some (match Nr t with|some n=>((n:Int),true)|none=>(0,false)):=by
 have hl:=BO ht hi;unfold J9;have w6:wr .i64 ((i:Int)+6)=((i+6:Nat):Int):=by grind[AO]
 have w2:wr .i64 ((i:Int)+2)=((i+2:Nat):Int):=by grind[AO]
 have w1:wr .i64 ((i:Int)+1)=((i+1:Nat):Int):=by grind[AO]
 simp only[AA,w6,w2,w1];by_cases h6:t.length<6;·have:((i+6:Nat):Int)>(l.length:Int):=fG;simp only[this,bl,av,Ud h6]
 ·have c0: ¬((i+6:Nat):Int)>(l.length:Int):=fG;simp only[c0,aX,aj,aq];obtain⟨x,y,a,b,c,d,r,rfl⟩:=six h6;have hx:=Ie (j:=0) ht rfl;simp only[bB]at hx;have hy:=Ie (j:=1) ht rfl;rw[hx,aa,hy,aa,BA l (i+2) (i+6) fG fG,aa];have e:(l.drop (i+2)).take (i+6-(i+2))=[a,b,c,d]:=by rw[<-aG,ht,show i+6-(i+2)=4 by omega];rfl
  rw[e,Aja _ fH fH,aa];unfold Nr;by_cases k1:x=92
  ·have k1':((AC x) !=92)=false:=by subst k1;rfl
   simp only[k1',aj,aq];by_cases k2:y=117
   ·have k2':((AC y) !=117)=false:=by subst k2;rfl
    simp only[k2',aj,aq,k1,k2,cS];rw[AP4,AOz];by_cases k3:[a,b,c,d].all KC=true;·have:=Yt [a,b,c,d] 0 k3;simp only[k3,av];rw[OU (by grind)];rfl
    ·simp only[k3,aq,aj];rfl
   ·have k2':((AC y) !=117)=true:=by have: ¬y.toNat=117:=λe=>k2 (cn.1 e);simp only[dQ,dY,AC];omega
    simp_all
  ·have k1':((AC x) !=92)=true:=by have: ¬x.toNat=92:=λe=>k1 (cn.1 e);simp only[dQ,dY,AC];omega
   simp_all
def AC9{l t:B8}{i n:Nat} (hu:Nr t=some n) (ht:l.drop i=t) (hi:i<=l.length) (hb:l.length<=2^50):J9 N l (i:Int)=some ((n:Int),true):=by rw[Xr ht hi hb,hu]
def AUU{l t:B8}{i:Nat} (hu:Nr t=none) (ht:l.drop i=t) (hi:i<=l.length) (hb:l.length<=2^50):J9 N l (i:Int)=some (0,false):=by rw[Xr ht hi hb,hu]
def AOX{l t:B8}{i:Nat} (ht:l.drop i=t) (hi:i<=l.length) (hb:l.length<=2^50):IZ N ⟨l,(i:Int)⟩=some (match Nr t with|some n=>((n:Int),true,⟨l,((i+6:Nat):Int)⟩)|none=>(0,false,⟨l,(i:Int)⟩)):=by
 have hl:=BO ht hi;unfold IZ;have w6:wr .i64 ((i:Int)+6)=((i+6:Nat):Int):=by rw[AO fG];simp
 have w2:wr .i64 ((i:Int)+2)=((i+2:Nat):Int):=by rw[AO fG];simp
 have w0:wr .i64 ((l.length:Int)-(i:Int))=((t.length:Nat):Int):=by rw[AO fG];omega
 simp only[AA,w6,w2,w0];by_cases h6:t.length<6;·have:((t.length:Nat):Int)<6:=fG;simp only[this,bl,av,Ud h6]
 ·have c0: ¬((t.length:Nat):Int)<6:=fG;simp only[c0,aX,aj,aq];obtain⟨x,y,a,b,c,d,r,rfl⟩:=six h6;have hl':l.length=i+6+r.length:=by rw[hl];simp only[ag];omega
  rw[BA l i (i+2) fG fG,aa,BA l (i+2) (i+6) fG fG,aa];have e:(l.drop (i+2)).take (i+6-(i+2))=[a,b,c,d]:=by rw[<-aG,ht,show i+6-(i+2)=4 by omega];rfl
  have e2:(l.drop i).take (i+2-i)=[x,y]:=by rw[ht,show i+2-i=2 by omega];rfl
  rw[e,e2,Aga _ fH fH,aa];unfold Nr;by_cases k1:x=92/\y=117
  ·obtain⟨rfl,rfl⟩:=k1;rw[show(!(([92,117]:B8)==[92,117]))=false from rfl];simp only[aj,aq,cS];rw[AP4,AOz];by_cases k3:[a,b,c,d].all KC=true;·have:=Yt [a,b,c,d] 0 k3;simp only[k3,av];rw[OU (by simp at this;omega)];rfl
   ·simp only[k3,aq,aj];rfl
  ·have k1':(!(([x,y]:B8)==[92,117]))=true:=by have:([x,y]:B8)≠ [92,117]:=λe=>k1 (by simpa using e);simp only[cD,cj];exact this
   have k4: ¬(x=92/\y=117/\[a,b,c,d].all KC=true):=λh=>k1 ⟨h.1,h.2.1⟩;simp only[k1',av,k4,aq]
def Yk{t:B8}{n:Nat} (h:Nr t=some n):n<65536/\6<=t.length/\∃r,t=92::117::r:=by
 by_cases h6:t.length<6;·grind[Ud]
 ·obtain⟨x,y,a,b,c,d,r,rfl⟩:=six h6;simp only[Nr]at h;by_cases hc:x=92/\y=117/\[a,b,c,d].all KC=true;·rw[ah hc]at h;simp only[al]at h;subst h;have:=Yt [a,b,c,d] 0 hc.2.2;simp_all
  simp_all
def Ri (n:Nat):Option UInt8:=if n=34 then some 34 else if n=92 then some 92 else if n=47 then some 47 else if n=98 then some 8 else if n=102 then some 12 else if n=110 then some 10 else if n=114 then some 13 else if n=116 then some 9 else none
def ADr (hi lo:Nat):Nat:=65536+(hi-55296) * 1024+lo-56320
def PK (t:B8):B8×Nat×Int:=match Nr t with
 | some hi=>if 55296<=hi/\hi<=56319 then match Nr (t.drop 6)with |some lo=>if 56320<=lo/\lo<=57343 then(Vm (ADr hi lo),12,0)else([],0,7)|none=>([],0,7) else if 56320<=hi/\hi<=57343 then([],0,7)else(Vm hi,6,0)
 | none=>match t with
 |_::c::_=>match Ri c.toNat with|some b=>([b],2,0)|none=>([],0,130)
 |_=>([],0,130)
def AVt (i:Nat) (r:B8×Nat×Int):B8×Int×Int:=if r.2.2=0 then(r.1,((i+r.2.1:Nat):Int),0)else([],0,r.2.2)
theorem ABc{i n:Nat}{x:B8}:AVt i (x,n,0)=(x,((i+n:Nat):Int),0):=rfl
theorem ZI{i:Nat}:AVt i ([],0,7)=([],0,7):=rfl
theorem ADI{i:Nat}:AVt i ([],0,130)=([],0,130):=rfl
def AZU: ∀j:Nat,j<8->(Dx [34,92,47,98,102,110,114,116] j).2=1:=by intro j h;match j,h with |0,_=>rfl|1,_=>rfl|2,_=>rfl|3,_=>rfl|4,_=>rfl|5,_=>rfl|6,_=>rfl|7,_=>rfl
def Zt (n:Nat):Nat->Nat->Option UInt8 |0,_=>none|k+1,j=>if([34,92,47,98,102,110,114,116]:List Nat)[j]?=some n then([34,92,47,8,12,10,13,9]:B8)[j]? else Zt n k (j+1)
def ACK{l:B8}{i:Nat}{c:UInt8} (hc:idx l ((i+1:Nat):Int)=some c) (hb:i+10<=2^60) (k2:Unit->Option (B8×Int×Int)):∀(m k j:Nat),j+m=8->m<k->DF N l (i:Int) k2 k j=match Zt c.toNat m j with|some b=>some ([b],((i+2:Nat):Int),0)|none=>k2 ()
 | 0,k+1,j,h,_=>by grind[DF,Zt]
 | m+1,k+1,j,h,hk=>by
  rw[DF];have hj:j<8:=fG;have w1:wr .i64 ((i:Int)+1)=((i+1:Nat):Int):=by grind[AO]
  have w2:wr .i64 ((i:Int)+2)=((i+2:Nat):Int):=by grind[AO]
  have w3:wr .i64 ((j:Int)+1)=((j+1:Nat):Int):=by grind[AO]
  simp only[hj,bl,av,w1,w2,w3,hc,aa,AZU j hj];rw[ACK hc hb k2 m k (j+1) fG fG,Zt];have hcn:=c.toNat_lt;obtain⟨x,y,e1,e2,e3,e4⟩: ∃x y:UInt8,idx ([34,92,47,98,102,110,114,116]:B8) (j:Int)=some x/\([34,92,47,98,102,110,114,116]:List Nat)[j]?=some x.toNat/\([34,92,47,8,12,10,13,9]:B8)[j]?=some y/\sub ([34,92,47,8,12,10,13,9]:B8) (j:Int) ((j+1:Nat):Int)=some [y]:=by match j,hj with |0,_=>exact⟨_,_,rfl,rfl,rfl,rfl⟩|1,_=>exact⟨_,_,rfl,rfl,rfl,rfl⟩|2,_=>exact⟨_,_,rfl,rfl,rfl,rfl⟩|3,_=>exact⟨_,_,rfl,rfl,rfl,rfl⟩|4,_=>exact⟨_,_,rfl,rfl,rfl,rfl⟩|5,_=>exact⟨_,_,rfl,rfl,rfl,rfl⟩|6,_=>exact⟨_,_,rfl,rfl,rfl,rfl⟩|7,_=>exact⟨_,_,rfl,rfl,rfl,rfl⟩
  rw[e1,aa,e2,e3,e4,aa];by_cases h:x.toNat=c.toNat;·grind[AC]
  ·have:(AC x==AC c)=false:=by simp only[AC,cj,dY];omega
   grind
def AZE (c:UInt8):Zt c.toNat 8 0=Ri c.toNat:=BJ (f:=λn=>Zt n 8 0) (g:=Ri) (by kernel_rfl) c
def ACs{hi lo:Nat} (h1:55296<=hi/\hi<=56319) (h2:56320<=lo/\lo<=57343):DX ((ADr hi lo:Nat):Int)=true:=by
 have h:65536<=ADr hi lo/\ADr hi lo<=1114111:=by unfold ADr;omega
 generalize ADr hi lo=n at h;simp only[DX,az,bM,au];omega
def Ae8{hi lo:Nat} (h1:55296<=hi/\hi<=56319) (h2:56320<=lo/\lo<=57343):wr .i64 (wr .i64 (wr .i64 (65536+wr .i64 (wr .i64 ((hi:Int)-55296) * 1024))+(lo:Int))-56320)=((ADr hi lo:Nat):Int):=by rw[AO (n:=(hi:Int)-55296) fG,AO (n:=((hi:Int)-55296) * 1024) fG,AO (n:=65536+((hi:Int)-55296) * 1024) fG,AO (n:=65536+((hi:Int)-55296) * 1024+(lo:Int)) fG,AO fG];unfold ADr;omega
def AOH{l t:B8}{i:Nat} (ht:l.drop i=t) (hi:i<=l.length) (hb:l.length<=2^50) (hN:9<=N) (k2:Unit->Option (B8×Int×Int)):(if decide (((i+1:Nat):Int)<(l.length:Int))=true then DF N l (i:Int) k2 N 0 else k2 ())=match t with
 |_::c::_=>(match Ri c.toNat with|some b=>some ([b],((i+2:Nat):Int),0)|none=>k2 ())
 |_=>k2 ():=by have hl:=BO ht hi;match t,ht,hl with | [],ht,hl=>simp only[ap]at hl;have: ¬((i+1:Nat):Int)<(l.length:Int):=fG;simp only[this,aX,aj,aq]| [_],ht,hl=>simp only[ag,ap]at hl;simp_all| _::c::r,ht,hl=>simp only[ag]at hl;have:((i+1:Nat):Int)<(l.length:Int):=fG;simp only[this,bl,av];rw[ACK (c:=c) (Ie ht rfl) fG k2 8 N 0 fG fG,AZE]
def VS (t:B8):B8×Nat×Int:=match t with
 |_::c::_=>(match Ri c.toNat with|some b=>([b],2,0)|none=>([],0,130))
 |_=>([],0,130)
def Zv{t:B8} (h:Nr t=none):PK t=VS t:=by simp_all[PK,VS]
def ZX{t:B8}{hi:Nat} (h:Nr t=some hi):PK t=((if 55296<=hi/\hi<=56319 then match Nr (t.drop 6)with |some lo=>if 56320<=lo/\lo<=57343 then(Vm (ADr hi lo),12,0)else([],0,7)|none=>([],0,7) else if 56320<=hi/\hi<=57343 then([],0,7)else(Vm hi,6,0)):B8×Nat×Int):=by simp_all[PK]
def VZ{n:Nat} (h:DX (n:Int)=true):encR (n:Int)=(Vm n,0):=by simp_all[encR]
def ABM{n:Nat} (h:DX (n:Int)=false):encR (n:Int)=([],4):=by simp_all[encR]
def Alx{l r:B8}{i:Nat} (ht:l.drop i=92::117::r) (hi:i<=l.length) (hb:l.length<=2^50) (hN:9<=N) (k2:Unit->Option (B8×Int×Int)):(if decide (((i+1:Nat):Int)<(l.length:Int))=true then DF N l (i:Int) k2 N 0 else k2 ())=k2 ():=by rw[AOH ht hi hb hN k2];grind[Ri]
def AWl{l t:B8}{i:Nat} (ht:l.drop i=t) (hi:i<=l.length) (hb:l.length<=2^50) (hN:9<=N):Kt N l (i:Int)=some (AVt i (PK t)):=by
 have hl:=BO ht hi;unfold Kt;have w1:wr .i64 ((i:Int)+1)=((i+1:Nat):Int):=by grind[AO]
 have w6:wr .i64 ((i:Int)+6)=((i+6:Nat):Int):=by grind[AO]
 have w12:wr .i64 ((i:Int)+12)=((i+12:Nat):Int):=by grind[AO]
 simp only[AA,w1,w6,w12];cases hu:Nr t with
 | none=>refine(AOH ht hi hb hN _).trans ?_;simp only[Xr ht hi hb,hu];rw[Zv hu];simp only[aa,aj,aq];match t with |[]=>rfl|[_]=>rfl| _::c::r=>simp only[VS];cases Ri c.toNat<;>rfl
 | some hi'=>
  obtain⟨h1,h2,r,rfl⟩:=Yk hu;refine(Alx ht hi hb hN _).trans ?_;rw[ZX hu];rw[AC9 hu ht hi hb,aa];rw[ah rfl];by_cases c1:55296<=hi'/\hi'<=56319
  ·have d1: ¬(hi':Int)<55296:=fG;have d2: ¬(hi':Int)>57343:=fG;have d3: ¬(hi':Int)>56319:=fG;simp only[c1,d1,d2,d3,eo,av,aX,aj,aq];have ht6:l.drop (i+6)=(92::117::r).drop 6:=by grind[List.drop_drop]
   cases hu2:Nr ((92::117::r).drop 6)with
   |none=>rw[AUU hu2 ht6 fG hb,aa,ae fI];grind[ZI]
   | some lo=>
    rw[AC9 hu2 ht6 fG hb,aa,ah rfl];simp only[];by_cases c2:56320<=lo/\lo<=57343;·have e1: ¬(lo:Int)<56320:=fG;have e2: ¬(lo:Int)>57343:=fG;have key:=YR (N:=N) ((ADr hi' lo:Nat):Int);rw[VZ (ACs c1 c2)]at key;rw[ah c2,ABc];simp only[e1,e2,aX,aj,aq];rw[Ae8 c1 c2,key,aa]
    ·by_cases c3:(lo:Int)<56320;·simp only[c3,bl,av,c2,aq,ZI]
     ·have e2:(lo:Int)>57343:=fG;simp only[c3,e2,bl,aX,aj,aq,av,c2,ZI]
  ·by_cases c2:56320<=hi'/\hi'<=57343;·have d1: ¬(hi':Int)<55296:=fG;have d2: ¬(hi':Int)>57343:=fG;have d3:(hi':Int)>56319:=fG;simp only[c1,c2,d1,d2,d3,eo,av,aX,bl,aj,aq];rw[Xr (t:=(92::117::r).drop 6) (by grind[List.drop_drop]) fG hb];simp only[aa,ABc,ZI,ADI]
   ·have hp:DX (hi':Int)=true:=by simp only[DX,az,bM,au];omega
    rw[ae c1,ae c2];by_cases c3:(hi':Int)<55296;·simp only[c3,bl,av];rw[YR,VZ hp];simp only[aa,ABc,ZI,ADI]
    ·have d2:(hi':Int)>57343:=fG;simp only[c3,d2,bl,aX,aj,aq,av];rw[YR,VZ hp];simp only[aa,ABc,ZI,ADI]
def AVG{l t:B8}{i:Nat} (ht:l.drop i=t) (hi:i<=l.length) (hb:l.length<=2^50) (hN:9<=N):∃q:TokenReader,Ig N ⟨l,(i:Int)⟩=some ((PK t).1,(PK t).2.2,q)/\((PK t).2.2=0->q=⟨l,((i+(PK t).2.1:Nat):Int)⟩):=by
 have hl:=BO ht hi;unfold Ig;rw[AOX ht hi hb,aa];cases hu:Nr t with
 | none=>
  have w1:wr .i64 ((i:Int)+1)=((i+1:Nat):Int):=by rw[AO fG];simp
  rw[Zv hu];simp only[aj,aq,w1,AA];unfold Lh;match t,ht,hl with
  | [],ht,hl=>simp only[ap]at hl;have c: ¬((i+1:Nat):Int)<(l.length:Int):=fG;have c':((i+1:Nat):Int)>=(l.length:Int):=fG;simp only[c,aX,aj,aq,aa];simp only[strings_IndexByte,Bl,aa,c',bl,av];exact⟨_,rfl,λh=>by cases h⟩
  | [_],ht,hl=>simp only[ap,ag]at hl;have c: ¬((i+1:Nat):Int)<(l.length:Int):=fG;have c':((i+1:Nat):Int)>=(l.length:Int):=fG;simp only[c,aX,aj,aq,aa];simp only[strings_IndexByte,Bl,aa,c',bl,av];exact⟨_,rfl,λh=>by cases h⟩
  | x::c::r,ht,hl=>
   simp only[ag]at hl;have d:((i+1:Nat):Int)<(l.length:Int):=fG;have d': ¬((i+1:Nat):Int)>=(l.length:Int):=fG;have hc:=Ie (j:=1) ht rfl;have w2:wr .i64 (((i+1:Nat):Int)+1)=((i+2:Nat):Int):=by rw[AO fG];omega
   simp only[d,bl,av];rw[hc,aa,aa];simp only[strings_IndexByte,Bl,aa,d',aX,aj,aq,JW,w2];have key:=BJ (f:=λn=>if decide (Go.Lib.indexByte ([34,92,47,98,102,110,114,116]:B8) (UInt8.ofNat n)<0)=true then none else sub ([34,92,47,8,12,10,13,9]:B8) (Go.Lib.indexByte [34,92,47,98,102,110,114,116] (UInt8.ofNat n)) (wr .i64 (Go.Lib.indexByte [34,92,47,98,102,110,114,116] (UInt8.ofNat n)+1))) (g:=λn=>(Ri n).map λb=>[b]) (by kernel_rfl) c;simp only[bv]at key;by_cases hneg:Go.Lib.indexByte ([34,92,47,98,102,110,114,116]:B8) c<0
   ·simp only[hneg,bl,av]at key⊢;have:Ri c.toNat=none:=by cases hs:Ri c.toNat with |none=>rfl|some b=>rw[hs]at key;cases key
    simp only[VS,this];exact⟨_,rfl,λh=>by cases h⟩
   ·simp only[hneg,aX,aj,aq]at key⊢;cases hs:Ri c.toNat with
    | none=>
     exfalso;rw[hs]at key;have f: ∀c:UInt8,(if decide (Go.Lib.indexByte ([34,92,47,98,102,110,114,116]:B8) c<0)=true then true else(Ri c.toNat).isSome)=true:=by intro c;have:=BJ (f:=λn=>if decide (Go.Lib.indexByte ([34,92,47,98,102,110,114,116]:B8) (UInt8.ofNat n)<0)=true then true else(Ri n).isSome) (g:=λn=>true) (by kernel_rfl) c;simpa only[bv]using this
     have:=f c;simp only[hneg,aX,aj,aq,hs]at this;cases this
    | some b=>rw[hs]at key;rw[key];simp only[VS,hs,aR,aa];exact⟨_,rfl,λ_=>rfl⟩
 | some hi'=>
  obtain⟨h1,h2,r,rfl⟩:=Yk hu;rw[ZX hu];simp only[av,AA];by_cases c1:55296<=hi'/\hi'<=56319
  ·have d1:(hi':Int)>=55296:=fG;have d2:(hi':Int)<=56319:=fG;have hp:DX (hi':Int)=false:=by
    have: ¬DX (hi':Int)=true:=by simp only[DX,az,bM,au];omega
    simpa using this
   simp only[c1,d1,d2,eo,av,bl];rw[AOX (t:=(92::117::r).drop 6) (by rw[<-aG,ht]) fG hb,aa];cases hu2:Nr ((92::117::r).drop 6)with
   | none=>simp only[aj,aq];rw[QU fG,ABM hp];exact⟨_,rfl,λh=>by cases h⟩
   | some lo=>
    simp only[av];by_cases c2:56320<=lo/\lo<=57343;·have e1:(lo:Int)>=56320:=fG;have e2:(lo:Int)<=57343:=fG;simp only[e1,e2,c2,eo,av,bl];rw[Ae8 c1 c2,QU fG,VZ (ACs c1 c2)];simp only[aa,eS,aj,aq,show i+6+6=i+12 by omega];exact⟨_,rfl,λ_=>rfl⟩
    ·by_cases c3:(lo:Int)>=56320;·have e2: ¬(lo:Int)<=57343:=fG;simp only[c3,e2,bl,aX,aj,aq,av,c2];rw[QU fG,ABM hp];exact⟨_,rfl,λh=>by cases h⟩
     ·simp only[c3,aX,aj,aq,c2];rw[QU fG,ABM hp];exact⟨_,rfl,λh=>by cases h⟩
  ·rw [ae c1];have hk:(if decide ((hi':Int)>=55296)=true then decide ((hi':Int)<=56319)else false)=false:=by
    by_cases c:(hi':Int)>=55296;·have: ¬(hi':Int)<=56319:=fG;simp[c,this]
    ·simp[c]
   by_cases c2:56320<=hi'/\hi'<=57343
   ·rw [ah c2];have hp:DX (hi':Int)=false:=by
     have: ¬DX (hi':Int)=true:=by simp only[DX,az,bM,au];omega
     simpa using this
    have d1:(hi':Int)>=55296:=fG;have d2: ¬(hi':Int)<=56319:=fG;simp only[d1,d2,bl,aX,aj,av,aq];rw[QU fG,ABM hp];exact⟨_,rfl,λh=>by cases h⟩
   ·rw[ae c2];have hp:DX (hi':Int)=true:=by simp only[DX,az,bM,au];omega
    by_cases c3:(hi':Int)>=55296;·have d2: ¬(hi':Int)<=56319:=fG;simp only[c3,d2,bl,aX,aj,av,aq];rw[QU fG,VZ hp];exact⟨_,rfl,λ_=>rfl⟩
    ·simp only[c3,aX,aj,aq];rw[QU fG,VZ hp];exact⟨_,rfl,λ_=>rfl⟩
end
end Go.VM
namespace Go.VM
section
variable{N:Nat}
def APZ{t:B8}{r n:Nat} (h:Zn t=some (r,n)):1<=n/\n<=t.length/\n<=4:=by
 match t,h with
 |[],h=>cases h
 | a :: t,h=>
  simp only[Zn]at h;split at h;·simp only[al,aD]at h;obtain⟨_,rfl⟩:=h;simp
  ·split at h
   ·match t,h with
    |[],h=>cases h
    | b::t,h=>
     simp only at h;split at h;·simp only[al,aD]at h;obtain⟨_,rfl⟩:=h;simp
     grind
   ·split at h
    ·match t,h with
     |[],h=>cases h
     |[_],h=>cases h
     | b::c::t,h=>
      simp only at h;split at h;·simp only[al,aD]at h;obtain⟨_,rfl⟩:=h;simp
      grind
    ·split at h
     ·match t,h with
      |[],h=>cases h
      |[_],h=>cases h
      |[_,_],h=>cases h
      | b::c::d::t,h=>
       simp only at h;split at h;·simp only[al,aD]at h;obtain⟨_,rfl⟩:=h;simp
       grind
     grind
theorem AN2 (r:Nat):1<=(Vm r).length/\(Vm r).length<=4:=by grind[Vm]
def ABf{t:B8} (h:(PK t).2.2=0):2<=(PK t).2.1/\(PK t).2.1<=t.length/\(PK t).1.length<=4/\(PK t).1.length<=(PK t).2.1:=by
 cases hu:Nr t with
 | none=>rw[Zv hu]at h⊢;match t,h with |[],h=>cases h|[_],h=>cases h| _::c::r,h=>grind[VS,Ri]
 | some hi=>
  obtain⟨h1,h2,_⟩:=Yk hu;rw[ZX hu]at h⊢;by_cases c1:55296<=hi/\hi<=56319
  ·simp only[c1,eo,av]at h⊢;cases hu2:Nr (t.drop 6)with
   |none=>grind
   | some lo=>
    obtain⟨_,h3,_⟩:=Yk hu2;rw[hu2]at h;simp only at h⊢;by_cases c2:56320<=lo/\lo<=57343;·simp only[c2,eo,av]at h⊢;have:=AN2 (ADr hi lo);grind
    simp_all
  ·rw[ae c1]at h⊢;by_cases c2:56320<=hi/\hi<=57343;·simp_all
   ·rw[ae c2];grind[AN2]
def IV:Nat->B8->Nat->B8->B8×Nat×Int |0,_,_,_=>([],0,130)|_+1,[],_,_=>([],0,130)| k+1,c::t,i,out=>if c.toNat=34 then(out,i+1,0) else if c.toNat=92 then if(PK (c::t)).2.2=0 then IV k ((c::t).drop (PK (c::t)).2.1) (i+(PK (c::t)).2.1) (out++(PK (c::t)).1) else([],0,(PK (c::t)).2.2) else if c.toNat<32 then([],0,130) else match Zn (c::t)with |some (_,n)=>IV k ((c::t).drop n) (i+n) (out++(c::t).take n)|none=>([],0,7)
def outT (r:B8×Nat×Int):B8×Int×Int:=if r.2.2=0 then(r.1,(r.2.1:Int),0)else([],0,r.2.2)
def ACW: ∀(k:Nat) (t:B8) (i:Nat) (out:B8),(IV k t i out).2.2=0->i<(IV k t i out).2.1/\(IV k t i out).2.1<=i+t.length/\(IV k t i out).1.length<=out.length+t.length
 |0,t,i,out,h=>by grind[IV]
 |k+1,[],i,out,h=>by grind[IV]
 | k+1,c::t,i,out,h=>by
  rw[IV]at h⊢;split at h;·simp_all
  ·rename_i c1;split at h
   ·rename_i c2;split at h;·rename_i c3;have:=ACW k _ _ _ h;obtain⟨e1,e2,e3,e4⟩:=ABf c3;rw[ae c1,ah c2,ah c3];grind
    grind
   ·rename_i c2;split at h;·cases h
    ·rename_i c3;cases hd:Zn (c::t)with |none=>grind| some p=>obtain⟨r,n⟩:=p;rw[hd]at h;rw[ae c1,ae c2,ae c3];have:=ACW k _ _ _ h;grind
def ADZ{n:Nat}{k:Nat}:((n:Int)==(k:Int))=decide (n=k):=by grind
def AlZ (c:UInt8):(AC c==34)=decide (c.toNat=34):=ADZ (k:=34)
def AsV (c:UInt8):(AC c==92)=decide (c.toNat=92):=ADZ (k:=92)
def Asy (c:UInt8):decide (AC c<32)=decide (c.toNat<32):=by have:=c.toNat_lt;simp only[AC];congr 1;simp only[dS];omega
theorem ACu{i r n:Nat}:Mf i (some (r,n))=((r:Int),((i+n:Nat):Int),0):=rfl
def head_drop{l t:B8}{c:UInt8}{i:Nat} (ht:l.drop i=c::t):idx l (i:Int)=some c:=by have:=Ie (j:=0) ht rfl;omega
section
variable{l:B8}
def Wj (hb:l.length<=2^50) (hN:9<=N) (k2:Unit->Option (B8×Int×Int)) (hk:k2 ()=some ([],0,130)): ∀(k:Nat) (t:B8) (i:Nat) (out:B8),l.drop i=t->i<=l.length->t.length<k->out.length<=i->Et N l k2 k out (i:Int)=some (outT (IV k t i out))
 |0,t,i,out,ht,hi,h,ho=>by omega
 | k+1,[],i,out,ht,hi,h,ho=>by have hl:=BO ht hi;simp only[ap]at hl;have c: ¬(i:Int)<(l.length:Int):=fG;rw[Et,IV];simp only[c,aX,aj,aq,hk];rfl
 | k+1,c::t,i,out,ht,hi,h,ho=>by
  have hl:=BO ht hi;simp only[ag]at hl h;have c0:(i:Int)<(l.length:Int):=fG;have w1:wr .i64 ((i:Int)+1)=((i+1:Nat):Int):=by grind[AO]
  rw[Et,IV];rw[ah (aA c0),head_drop ht,aa,AlZ,AsV,Asy,w1];by_cases c1:c.toNat=34;·rw[ah (aA c1),ah c1];rfl
  ·rw [ae (by grind),ae c1];by_cases c2:c.toNat=92
   ·rw[ah (aA c2),ah c2,AWl ht hi hb hN,aa];by_cases c3:(PK (c::t)).2.2=0
    ·obtain⟨e1,e2,e3,e4⟩:=ABf c3;have ho2:AVt i (PK (c::t))=((PK (c::t)).1,((i+(PK (c::t)).2.1:Nat):Int),0):=by simp_all[AVt]
     rw[ho2,ae fH,AJ (by grind[AL]),ah c3];simp only[ag]at e2;exact Wj hb hN k2 hk k _ _ _ (by grind[List.drop_drop]) fG (by grind) (by grind)
    simp_all[AVt,PK,outT]
   ·rw [ae (by grind),ae c2];by_cases c3:c.toNat<32;·rw[ah (aA c3),ah c3];rfl
    ·rw[ae (by grind),ae c3,Aeu fG fG fG,aa,ht];cases hd:Zn (c::t)with |none=>rfl| some p=>obtain⟨r,n⟩:=p;obtain⟨e1,e2,e3⟩:=APZ hd;simp only[ag]at e2;rw[ACu,ae fH,BA l i (i+n) fG fG,aa,bk,ht];rw[AJ (by grind[AL])];exact Wj hb hN k2 hk k _ _ _ (by grind[List.drop_drop]) fG (by grind) (by grind)
def Ak9 (hb:l.length<=2^50) (hN:l.length+9<=N){i:Nat} (hi:i<l.length):NT N l (i:Int)=some (outT (IV N (l.drop (i+1)) (i+1) [])):=by unfold NT;rw[AA,AO fG];exact Wj hb fG _ rfl N _ (i+1) [] rfl fG (by grind) fH
def Wv (hb:l.length<=2^40) (hN:9<=N) (k2:Bool×B8×B8×Int->Option (B8×Int×TokenReader)) (hk: ∀q,∃q',k2 q=some ([],130,q')): ∀(k:Nat) (t:B8) (i:Nat) (ad:Bool) (out:B8),l.drop i=t->i<=l.length->t.length<k->out.length<=i->∃q,Ci N k2 k ad out l (i:Int)=some ((outT (IV k t i out)).1,(outT (IV k t i out)).2.2,q)/\((IV k t i out).2.2=0->q=⟨l,((IV k t i out).2.1:Int)⟩)
 |0,t,i,ad,out,ht,hi,h,ho=>by omega
 | k+1,[],i,ad,out,ht,hi,h,ho=>by have hl:=BO ht hi;simp only[ap]at hl;have c: ¬(i:Int)<(l.length:Int):=fG;rw[Ci,IV];obtain⟨q,hq⟩:=hk (ad,out,l,(i:Int));rw[ae (by simpa using c),hq];exact⟨q,rfl,λh=>by cases h⟩
 | k+1,c::t,i,ad,out,ht,hi,h,ho=>by
  have hl:=BO ht hi;simp only[ag]at hl h;have c0:(i:Int)<(l.length:Int):=fG;have w1:wr .i64 ((i:Int)+1)=((i+1:Nat):Int):=by rw[AO fG];simp
  rw[Ci,IV];rw[ah (aA c0),head_drop ht,aa,AlZ,AsV,Asy,w1];have ws: ∀x:B8,x.length<=4->AQ N (StringsBuilder.mk ad out) x=some ((x.length:Int),(),StringsBuilder.mk true (out++x)):=by intro x hx;unfold AQ FE;cases ad<;>simp only[aj,aq,av,aa]<;>rw[AJ (by unfold BR;omega)]
  by_cases c1:c.toNat=34;·rw[ah (aA c1),ah c1];exact⟨_,rfl,λ_=>rfl⟩
  ·rw [ae (by simpa using c1),ae c1];by_cases c2:c.toNat=92
   ·rw[ah (aA c2),ah c2];obtain⟨q,hq,hq0⟩:=AVG (N:=N) ht hi fG hN;rw[hq,aa];by_cases c3:(PK (c::t)).2.2=0;·obtain⟨e1,e2,e3,e4⟩:=ABf c3;rw[ae (by simpa using c3),ws _ e3,aa,ah c3];rw[hq0 c3];simp only[ag]at e2;exact Wv hb hN k2 hk k _ _ true _ (by rw[<-aG,ht]) fG (by simp only[aB,ag];omega) (by simp only[an];omega)
    ·rw[ah (by simpa using c3),ae c3];refine⟨q,?_,λh=>absurd h c3⟩;unfold outT;rw[ae c3]
   ·rw [ae (by simpa using c2),ae c2];by_cases c3:c.toNat<32;·rw[ah (aA c3),ah c3];exact⟨_,rfl,λh=>by cases h⟩
    ·rw[ae (by simpa using c3),ae c3];unfold Li;simp only[AA];rw[Afw fG fG fG,aa,ht];cases hd:Zn (c::t)with |none=>exact⟨_,rfl,λh=>by cases h⟩| some p=>obtain⟨r,n⟩:=p;obtain⟨e1,e2,e3⟩:=APZ hd;simp only[ag]at e2;rw[ACu,ae fH,BA l i (i+n) fG fG,aa,bk,ht,aa];rw[ae fH,ws _ (by rw[bL];omega),aa];exact Wv hb hN k2 hk k _ _ true _ (by rw[<-aG,ht]) fG (by simp only[aB,ag];omega) (by rw[an,bL];omega)
def AnS (hb:l.length<=2^40) (hN:l.length+9<=N){i:Nat} (hi:i<l.length): ∃q,Jd N ⟨l,(i:Int)⟩=some ((outT (IV N (l.drop (i+1)) (i+1) [])).1,(outT (IV N (l.drop (i+1)) (i+1) [])).2.2,q)/\((IV N (l.drop (i+1)) (i+1) []).2.2=0->q=⟨l,((IV N (l.drop (i+1)) (i+1) []).2.1:Int)⟩):=by unfold Jd;rw[AA,AO (by simp only[];omega)];exact Wv hb fG _ (λq=>⟨_,rfl⟩) N _ (i+1) false [] rfl fG (by rw[aB];omega) fH
end
end
end Go.VM
namespace Go.VM
section
variable{N:Nat}
theorem J3{α:Type} (p:α->Bool) (t:List α):t.take (t.takeWhile p).length=t.takeWhile p:=(List.prefix_iff_eq_take.1 (List.takeWhile_prefix p)).symm
theorem KM{α:Type} (p:α->Bool) (t:List α):(t.takeWhile p).length<=t.length:=(dp p).length_le
def DC (c:UInt8):Bool:=decide (48<=c.toNat)&&decide (c.toNat<=57)
def ABm (n:Nat):Bool:=(decide (65<=n)&&decide (n<=90))||(decide (97<=n)&&decide (n<=122))
def BS (c:UInt8):Bool:=ABm c.toNat
def wsN (n:Nat):Bool:=decide (n=32)||decide (n=9)||decide (n=10)||decide (n=13)
def wsB (c:UInt8):Bool:=wsN c.toNat
def RV (c:UInt8):Cw N (AC c)=some (DC c):=BJ (f:=λn=>Cw N (n:Int)) (g:=λn=>some (decide (48<=n)&&decide (n<=57))) (by kernel_rfl) c
def O1 (c:UInt8):Bu N (AC c)=some (DC c):=BJ (f:=λn=>Bu N (n:Int)) (g:=λn=>some (decide (48<=n)&&decide (n<=57))) (by kernel_rfl) c
def Oi (c:UInt8):GI N (AC c)=some (BS c):=BJ (f:=λn=>GI N (n:Int)) (g:=λn=>some (ABm n)) (by kernel_rfl) c
def QI (c:UInt8):ER N (AC c)=some (BS c):=BJ (f:=λn=>ER N (n:Int)) (g:=λn=>some (ABm n)) (by kernel_rfl) c
def Arn (c:UInt8):PW N (AC c)=some (wsB c):=BJ (f:=λn=>PW N (n:Int)) (g:=λn=>some (wsN n)) (by kernel_rfl) c
def AQ4 (c:UInt8) (k2:Unit->Option Bool) (h:k2 ()=some false): ∀l:B8,Gy N (AC c) k2 l=some (l.contains c)
 |[]=>by grind[Gy]
 | x::l=>by
  rw[Gy,AQ4 c k2 h l,bh];by_cases e:x=c;·grind
  ·have e1: ¬c=x:=λh=>e h.symm;have:(AC x==AC c)=false:=by have: ¬x.toNat=c.toNat:=λh=>e (cn.1 h);simp only[AC,cj,dY];omega
   grind
def Po (c:UInt8) (l:B8) (h:l.length<=1000):FU N (AC c) l=some (l.contains c):=by unfold FU;rw[AA,BV fG];exact AQ4 c _ rfl l
def Ap3 (c:UInt8):Nw N (AC c)=some (wsB c):=by unfold Nw;rw[Po _ _ fI,aa];have:=BJ (f:=λn=>some (([32,9,10,13]:B8).contains (UInt8.ofNat n))) (g:=λn=>some (wsN n)) (by kernel_rfl) c;simp only[bv]at this;exact this
def index_ge: ∀(l:B8) (c:UInt8),decide (Go.Lib.indexByte l c>=0)=l.contains c
 |[],c=>rfl
 | x::l,c=>by
  have ih:=index_ge l c;have h:=Go.Lib.indexByte_ge l c;rw[Go.Lib.indexByte,bh];by_cases e:x=c;·grind
  ·have e1:(c==x)=false:=by grind
   have e2:(x==c)=false:=by grind
   rw[e1,e2,be,<-ih];simp only[aj,aq];by_cases k:Go.Lib.indexByte l c= -1;·grind
   ·have k':(Go.Lib.indexByte l c== -1)=false:=by grind
    rw[k'];simp only[aj,aq];congr 1;simp only[dS];omega
def KY (l:B8) (c:UInt8):strings_IndexByte N l (AC c)=some (Go.Lib.indexByte l c):=by grind[strings_IndexByte,Bl,JW]
section
variable{l:B8}
def AN5 (hb:l.length<=2^50) (s:Int) (k2:Int->Option (B8×TokenReader)): ∀(t:B8) (i:Nat),l.drop i=t->i<=l.length->Aj N ⟨l,s⟩ k2 t.length (i:Int)=k2 ((i+(t.takeWhile DC).length:Nat):Int)
 |[],i,ht,hi=>by rw[ap,Aj];rfl
 | c::t,i,ht,hi=>by
  have hl:=BO ht hi;simp only[ag]at hl;rw[ag,Aj];rw[head_drop ht,aa,RV,aa,aN];cases DC c;·simp
  ·rw[ah rfl,ah rfl,show(i:Int)+1=((i+1:Nat):Int) by simp,AN5 hb s k2 t (i+1) (by rw[<-aG,ht];rfl) fG];rw[ag];congr 2;omega
def ARj (hb:l.length<=2^50) (s:Int) (k2:Int->Option (B8×TokenReader)): ∀(t:B8) (i:Nat),l.drop i=t->i<=l.length->Ak N ⟨l,s⟩ k2 t.length (i:Int)=k2 ((i+(t.takeWhile BS).length:Nat):Int)
 |[],i,ht,hi=>by rw[ap,Ak];rfl
 | c::t,i,ht,hi=>by
  have hl:=BO ht hi;simp only[ag]at hl;rw[ag,Ak];rw[head_drop ht,aa,Oi,aa,aN];cases BS c;·simp
  ·rw[ah rfl,ah rfl,show(i:Int)+1=((i+1:Nat):Int) by simp,ARj hb s k2 t (i+1) (by rw[<-aG,ht];rfl) fG];rw[ag];congr 2;omega
def ARa (hb:l.length<=2^50) (s:Int) (k2:Int->Option (B8×TokenReader)): ∀(t:B8) (i:Nat),l.drop i=t->i<=l.length->Aq N ⟨l,s⟩ k2 t.length (i:Int)=k2 ((i+(t.takeWhile wsB).length:Nat):Int)
 |[],i,ht,hi=>by rw[ap,Aq];rfl
 | c::t,i,ht,hi=>by
  have hl:=BO ht hi;simp only[ag]at hl;rw[ag,Aq];rw[head_drop ht,aa,Arn,aa,aN];cases wsB c;·simp
  ·rw[ah rfl,ah rfl,show(i:Int)+1=((i+1:Nat):Int) by simp,ARa hb s k2 t (i+1) (by rw[<-aG,ht];rfl) fG];rw[ag];congr 2;omega
variable{t:B8}{i:Nat}
def VP (p:UInt8->Bool) (ht:l.drop i=t) (hi:i<=l.length):sub l (i:Int) ((i+(t.takeWhile p).length:Nat):Int)=some (t.takeWhile p):=by have hl:=BO ht hi;have:=KM p t;rw[BA l i _ fG fG,bk,ht,J3]
def AhT (ht:l.drop i=t) (hi:i<=l.length) (hb:l.length<=2^50):CE N ⟨l,(i:Int)⟩=some (t.takeWhile DC,⟨l,((i+(t.takeWhile DC).length:Nat):Int)⟩):=by have hl:=BO ht hi;unfold CE;rw[AA,AJ (by simp only[];omega)];rw[show((l.length:Int)-(i:Int)).toNat=t.length by omega,AN5 hb _ _ t i ht hi];simp only[];rw[VP DC ht hi,aa]
def AqM (ht:l.drop i=t) (hi:i<=l.length) (hb:l.length<=2^50):CG N ⟨l,(i:Int)⟩=some (t.takeWhile BS,⟨l,((i+(t.takeWhile BS).length:Nat):Int)⟩):=by have hl:=BO ht hi;unfold CG;rw[AA,AJ (by simp only[];omega)];rw[show((l.length:Int)-(i:Int)).toNat=t.length by omega,ARj hb _ _ t i ht hi];simp only[];rw[VP BS ht hi,aa]
def Anm (ht:l.drop i=t) (hi:i<=l.length) (hb:l.length<=2^50):Da N ⟨l,(i:Int)⟩=some (t.takeWhile wsB,⟨l,((i+(t.takeWhile wsB).length:Nat):Int)⟩):=by have hl:=BO ht hi;unfold Da;rw[AA,AJ (by simp only[];omega)];rw[show((l.length:Int)-(i:Int)).toNat=t.length by omega,ARa hb _ _ t i ht hi];simp only[];rw[VP wsB ht hi,aa]
def Em (set t:B8):Bool:=match t with|c::_=>set.contains c|[]=>false
def UZ (set:B8) (ht:l.drop i=t) (hi:i<=l.length) (hb:l.length<=2^50):Bi N ⟨l,(i:Int)⟩ set=some (Em set t,⟨l,((i+(if Em set t=true then 1 else 0):Nat):Int)⟩):=by
 have hl:=BO ht hi;unfold Bi;rw[AA];match t,ht,hl with
 | [],ht,hl=>simp only[ap]at hl;have c: ¬(i:Int)<(l.length:Int):=fG;rw[ae (by simpa using c)];rfl
 | c::t,ht,hl=>
  simp only[ag]at hl;have c0:(i:Int)<(l.length:Int):=fG;rw[ah (aA c0)];simp only[];rw[head_drop ht,aa,KY,aa,index_ge,AO fG];have key: ∀b:Bool,(if b=true then some (true,(⟨l,(i:Int)+1⟩:TokenReader))else some (false,(⟨l,(i:Int)⟩:TokenReader)))=some (b,(⟨l,((i+(if b=true then 1 else 0):Nat):Int)⟩:TokenReader)):=by intro b;cases b<;>simp
  exact key _
def Ia (t:B8):Nat:=(t.takeWhile DC).length
theorem Sr (t:B8):Ia t<=t.length:=KM _ _
def AF5 (t:B8):(t.takeWhile DC==[])=decide (Ia t=0):=by unfold Ia;cases t.takeWhile DC<;>simp
def Aa (t:B8):Nat:=if Em [45] t=true then 1 else 0
def Dm (t:B8):Nat:=if Em [48] t=true then 1 else Ia t
def Fu (t:B8):Nat:=if Em [46] t=true/\0<Ia (t.drop 1)then 1+Ia (t.drop 1)else 0
def Mi (t:B8):Nat:=if Em [43,45] (t.drop 1)=true then 1 else 0
def Oc (t:B8):Nat:=if Em [101,69] t=true/\0<Ia (t.drop (1+Mi t))then 1+Mi t+Ia (t.drop (1+Mi t))else 0
def Fz (t:B8):Nat:=if Dm (t.drop (Aa t))=0 then 0 else Aa t+Dm (t.drop (Aa t))+Fu (t.drop (Aa t+Dm (t.drop (Aa t))))+Oc (t.drop (Aa t+Dm (t.drop (Aa t))+Fu (t.drop (Aa t+Dm (t.drop (Aa t))))))
theorem MU{set t:B8} (h:Em set t=true):0<t.length:=by cases t with |nil=>cases h|cons=>simp
theorem ADH (t:B8):Aa t<=t.length:=by grind[Aa,MU]
theorem ABO (t:B8):Dm t<=t.length:=by grind[Dm,MU,Sr]
theorem ABw (t:B8):Fu t<=t.length:=by grind[Fu,MU,Sr,List.length_drop]
theorem AGy (t:B8):Oc t<=t.length:=by grind[Oc,MU,Sr,Mi,List.length_drop]
def ALO (t:B8):Fz t<=t.length:=by grind[Fz,ADH,ABO,Aa,ABw,Dm,AGy,Fu,List.length_drop]
def AC3{f:Int} (ht:l.drop i=t) (hi:i<=l.length) (hb:l.length<=2^50):Di N ⟨l,(i:Int)⟩ f=some ⟨l,if 0<Ia t then((i+Ia t:Nat):Int)else f⟩:=by
 unfold Di;rw[AhT ht hi hb,aa];simp only[AF5];by_cases h:Ia t=0;·rw[ah (aA h),ae fG]
 ·rw[ae (by simpa using h),ah fG];rfl
def SC{a:Nat} (ht:l.drop i=t) (n:Nat) (h:a=i+n):l.drop a=t.drop n:=by grind[List.drop_drop]
def ADG (ht:l.drop i=t) (hi:i<=l.length) (hb:l.length<=2^50):if Fz t=0 then∃q,Df N ⟨l,(i:Int)⟩=some ([],false,q)else Df N ⟨l,(i:Int)⟩=some (t.take (Fz t),true,⟨l,((i+Fz t:Nat):Int)⟩):=by
 have hl:=BO ht hi;have h1:=ADH t;have h2:=ABO (t.drop (Aa t));have h3:=ABw (t.drop (Aa t+Dm (t.drop (Aa t))));have h4:=AGy (t.drop (Aa t+Dm (t.drop (Aa t))+Fu (t.drop (Aa t+Dm (t.drop (Aa t))))));simp only[aB]at h2 h3 h4;unfold Df;rw[UZ [45] ht hi hb,aa];change if Fz t=0 then∃q,AB _ _=some ([],false,q)else AB _ _=_;rw[show(if Em [45] t=true then 1 else 0)=Aa t from rfl];have hta:=SC ht (Aa t) rfl;rw[UZ [48] hta fG hb];simp only[aa];have rest: ∀a:Nat,a=i+(Aa t+Dm (t.drop (Aa t)))->Dm (t.drop (Aa t))≠0->(AB (λj11:TokenReader=>AB (λj19:TokenReader=>(sub j19.s (i:Int) j19.at_).bind λx29=>some (x29,true,j19)) λk20=>(Bi N j11 ([101,69]:B8)).bind λy23=>if y23.1=true then (Bi N y23.2 ([43,45]:B8)).bind λy25=>(Di N y25.2 j11.at_).bind λy27=>k20 y27 else k20 y23.2) λk12=>(Bi N ⟨l,(a:Int)⟩ ([46]:B8)).bind λy15=>if y15.1=true then (Di N y15.2 (a:Int)).bind λy17=>k12 y17 else k12 y15.2)=some (t.take (Fz t),true,(⟨l,((i+Fz t:Nat):Int)⟩:TokenReader)):=by
  intro a ha hne;have htb:=SC ht (Aa t+Dm (t.drop (Aa t))) ha;have hnum:Fz t=Aa t+Dm (t.drop (Aa t))+Fu (t.drop (Aa t+Dm (t.drop (Aa t))))+Oc (t.drop (Aa t+Dm (t.drop (Aa t))+Fu (t.drop (Aa t+Dm (t.drop (Aa t)))))):=by unfold Fz;rw[ae hne]
  have last: ∀b:Nat,b=i+(Aa t+Dm (t.drop (Aa t))+Fu (t.drop (Aa t+Dm (t.drop (Aa t)))))->(AB (λj19:TokenReader=>(sub j19.s (i:Int) j19.at_).bind λx29=>some (x29,true,j19)) λk20=>(Bi N ⟨l,(b:Int)⟩ ([101,69]:B8)).bind λy23=>if y23.1=true then (Bi N y23.2 ([43,45]:B8)).bind λy25=>(Di N y25.2 (b:Int)).bind λy27=>k20 y27 else k20 y23.2)=some (t.take (Fz t),true,(⟨l,((i+Fz t:Nat):Int)⟩:TokenReader)):=by
   intro b hb';have htc:=SC ht _ hb';have fin: ∀e:Nat,e=i+Fz t->((sub l (i:Int) (e:Int)).bind λx29=>some (x29,true,(⟨l,(e:Int)⟩:TokenReader)))=some (t.take (Fz t),true,(⟨l,((i+Fz t:Nat):Int)⟩:TokenReader)):=by rintro e rfl;have:=ALO t;rw[BA l i _ fG fG,aa,bk,ht]
   rw[AA,UZ [101,69] htc fG hb,aa];generalize hc:t.drop (Aa t+Dm (t.drop (Aa t))+Fu (t.drop (Aa t+Dm (t.drop (Aa t)))))=c at *;by_cases he:Em [101,69] c=true
   ·have hpos:=MU he;have hcl:c.length=t.length-(Aa t+Dm (t.drop (Aa t))+Fu (t.drop (Aa t+Dm (t.drop (Aa t))))):=by rw[<-hc,aB]
    simp only[he,av];rw[UZ [43,45] (SC htc 1 rfl) fG hb,aa];rw[show(if Em [43,45] (c.drop 1)=true then 1 else 0)=Mi c from rfl];have hes:Mi c<=c.length-1:=by
     unfold Mi;split;·rename_i h;have:=MU h;rw[aB]at this;omega
     ·omega
    rw[AC3 (SC htc (1+Mi c) fG) fG hb,aa];by_cases hr:0<Ia (c.drop (1+Mi c));·rw[ah hr];refine fin _ ?_;rw[hnum,show Oc c=1+Mi c+Ia (c.drop (1+Mi c)) by unfold Oc;rw[ah ⟨he,hr⟩]];omega
    ·rw[ae hr];refine fin _ ?_;rw[hnum,show Oc c=0 by unfold Oc;rw[ae (λh=>hr h.2)]];omega
   ·rw[cw]at he;simp only[he,aj,aq];refine fin _ ?_;rw[hnum,show Oc c=0 by unfold Oc;rw[ae (by rw[he];simp)]];omega
  rw[AA,UZ [46] htb fG hb,aa];generalize hc:t.drop (Aa t+Dm (t.drop (Aa t)))=c at *;by_cases he:Em [46] c=true
  ·have hpos:=MU he;have hcl:c.length=t.length-(Aa t+Dm (t.drop (Aa t))):=by rw[<-hc,aB]
   simp only[he,av];rw[AC3 (SC htb 1 rfl) fG hb,aa];by_cases hr:0<Ia (c.drop 1);·rw[ah hr];refine last _ ?_;rw[show Fu c=1+Ia (c.drop 1) by unfold Fu;rw[ah ⟨he,hr⟩]];omega
   ·rw[ae hr];refine last _ ?_;rw[show Fu c=0 by unfold Fu;rw[ae (λh=>hr h.2)]];omega
  ·rw[cw]at he;simp only[he,aj,aq];refine last _ ?_;rw[show Fu c=0 by unfold Fu;rw[ae (by rw[he];simp)]];omega
 have hnz:Fz t=0<->Dm (t.drop (Aa t))=0:=by
  unfold Fz;constructor
  ·intro h;by_cases k:Dm (t.drop (Aa t))=0;·exact k
   ·rw[ae k]at h;omega
  ·intro h;rw[ah h]
 by_cases h0:Em [48] (t.drop (Aa t))=true
 ·have hin:Dm (t.drop (Aa t))=1:=by unfold Dm;rw[ah h0]
  rw[ae (by rw[hnz,hin];decide)];simp only[h0,av];rw[AA];simp only[aj,aq];exact rest _ (by rw[hin];omega) (by rw[hin];decide)
 ·have hin:Dm (t.drop (Aa t))=Ia (t.drop (Aa t)):=by unfold Dm;rw[ae h0]
  rw[cw]at h0;simp only[h0,aj,aq,bB];try simp only[AA,aa]
  rw[AhT hta fG hb];simp only[aa,AA,AF5];by_cases hr:Ia (t.drop (Aa t))=0;·rw[ah (by rw[hnz,hin];exact hr)];simp only[hr,bl,av];exact⟨_,rfl⟩
  ·rw[ae (by rw[hnz,hin];exact hr)];simp only[hr,aX,aj,aq];have:=rest (i+Aa t+Ia (t.drop (Aa t))) (by rw[hin];omega) (by rw[hin];exact hr);simp only[AA]at this;exact this
end
end
end Go.VM
