import Derived.Test.YtjmejdocgdbklaaGreatDoorL1
set_option linter.defProp false
set_option linter.unusedVariables false
set_option linter.unusedSimpArgs false
namespace Go.VM
section
variable{N:Nat}
def NJ:B8->Option Nat |x::y::a::b::c::d::_=>if x=92/\y=117/\[a,b,c,d].all Jr=true then some (AAd 0 [a,b,c,d])else none|_=>none
theorem TB{t:B8} (h:t.length<6):NJ t=none:=by match t,h with |[],_=>rfl|[_],_=>rfl|[_,_],_=>rfl|[_,_,_],_=>rfl|[_,_,_,_],_=>rfl|[_,_,_,_,_],_=>rfl|_::_::_::_::_::_::_,h=>simp at h;omega
def six{t:B8} (h: ¬t.length<6): ∃x y a b c d r,t=x::y::a::b::c::d::r:=by match t,h with |x::y::a::b::c::d::r,_=>simp|[],h=>grind|[_],h=>grind|[_,_],h=>grind|[_,_,_],h=>grind|[_,_,_,_],h=>grind|[_,_,_,_,_],h=>simp at h
def APA (l:B8):(AN2 l).2=if l.all Jr=true then 0 else 1:=by unfold AN2;split<;>rfl
def APz (l:B8):(AN2 l).1=if l.all Jr=true then((AAd 0 l:Nat):Int)else 0:=by unfold AN2;split<;>rfl
def Xc{l t:B8}{i:Nat} (ht:l.drop i=t) (hi:i<=l.length) (hb:l.length<=2^50):Ji N l (i:Int)=some (match NJ t with|some n=>((n:Int),true)|none=>(0,false)):=by
 have hl:=BM ht hi;unfold Ji;have w6:wr .i64 ((i:Int)+6)=((i+6:Nat):Int):=by grind[AO]
 have w2:wr .i64 ((i:Int)+2)=((i+2:Nat):Int):=by grind[AO]
 have w1:wr .i64 ((i:Int)+1)=((i+1:Nat):Int):=by grind[AO]
 simp only[AA,w6,w2,w1];by_cases h6:t.length<6;·have:((i+6:Nat):Int)>(l.length:Int):=fy;simp only[this,bg,av,TB h6]
 ·have c0: ¬((i+6:Nat):Int)>(l.length:Int):=fy;simp only[c0,aT,al,au];obtain⟨x,y,a,b,c,d,r,rfl⟩:=six h6;have hx:=IJ (j:=0) ht rfl;simp only[bU]at hx;have hy:=IJ (j:=1) ht rfl;rw[hx,aa,hy,aa,BB l (i+2) (i+6) fy fy,aa];have e:(l.drop (i+2)).take (i+6-(i+2))=[a,b,c,d]:=by rw[<-aF,ht,show i+6-(i+2)=4 by omega];rfl
  rw[e,AeY _ fA fA,aa];unfold NJ;by_cases k1:x=92
  ·have k1':((AC x) !=92)=false:=by subst k1;rfl
   simp only[k1',al,au];by_cases k2:y=117
   ·have k2':((AC y) !=117)=false:=by subst k2;rfl
    simp only[k2',al,au,k1,k2,cM];rw[APA,APz];by_cases k3:[a,b,c,d].all Jr=true;·have:=Wm [a,b,c,d] 0 k3;simp only[k3,av];rw[Nl (by grind)];rfl
    ·simp only[k3,au,al];rfl
   ·have k2':((AC y) !=117)=true:=by have: ¬y.toNat=117:=λe=>k2 (ch.1 e);simp only[dL,dU,AC];omega
    simp_all
  ·have k1':((AC x) !=92)=true:=by have: ¬x.toNat=92:=λe=>k1 (ch.1 e);simp only[dL,dU,AC];omega
   simp_all
def ABr{l t:B8}{i n:Nat} (hu:NJ t=some n) (ht:l.drop i=t) (hi:i<=l.length) (hb:l.length<=2^50):Ji N l (i:Int)=some ((n:Int),true):=by rw[Xc ht hi hb,hu]
def ASy{l t:B8}{i:Nat} (hu:NJ t=none) (ht:l.drop i=t) (hi:i<=l.length) (hb:l.length<=2^50):Ji N l (i:Int)=some (0,false):=by rw[Xc ht hi hb,hu]
def AO3{l t:B8}{i:Nat} (ht:l.drop i=t) (hi:i<=l.length) (hb:l.length<=2^50):IA N ⟨l,(i:Int)⟩=some (match NJ t with|some n=>((n:Int),true,⟨l,((i+6:Nat):Int)⟩)|none=>(0,false,⟨l,(i:Int)⟩)):=by
 have hl:=BM ht hi;unfold IA;have w6:wr .i64 ((i:Int)+6)=((i+6:Nat):Int):=by rw[AO fy];simp
 have w2:wr .i64 ((i:Int)+2)=((i+2:Nat):Int):=by rw[AO fy];simp
 have w0:wr .i64 ((l.length:Int)-(i:Int))=((t.length:Nat):Int):=by rw[AO fy];omega
 simp only[AA,w6,w2,w0];by_cases h6:t.length<6;·have:((t.length:Nat):Int)<6:=fy;simp only[this,bg,av,TB h6]
 ·have c0: ¬((t.length:Nat):Int)<6:=fy;simp only[c0,aT,al,au];obtain⟨x,y,a,b,c,d,r,rfl⟩:=six h6;have hl':l.length=i+6+r.length:=by rw[hl];simp only[ag];omega
  rw[BB l i (i+2) fy fy,aa,BB l (i+2) (i+6) fy fy,aa];have e:(l.drop (i+2)).take (i+6-(i+2))=[a,b,c,d]:=by rw[<-aF,ht,show i+6-(i+2)=4 by omega];rfl
  have e2:(l.drop i).take (i+2-i)=[x,y]:=by rw[ht,show i+2-i=2 by omega];rfl
  rw[e,e2,Ad1 _ fA fA,aa];unfold NJ;by_cases k1:x=92/\y=117
  ·obtain⟨rfl,rfl⟩:=k1;rw[show(!(([92,117]:B8)==[92,117]))=false from rfl];simp only[al,au,cM];rw[APA,APz];by_cases k3:[a,b,c,d].all Jr=true;·have:=Wm [a,b,c,d] 0 k3;simp only[k3,av];rw[Nl (by simp at this;omega)];rfl
   ·simp only[k3,au,al];rfl
  ·have k1':(!(([x,y]:B8)==[92,117]))=true:=by have:([x,y]:B8)≠ [92,117]:=λe=>k1 (by simpa using e);simp only[cw,cd];exact this
   have k4: ¬(x=92/\y=117/\[a,b,c,d].all Jr=true):=λh=>k1 ⟨h.1,h.2.1⟩;simp only[k1',av,k4,au]
def Wq{t:B8}{n:Nat} (h:NJ t=some n):n<65536/\6<=t.length/\∃r,t=92::117::r:=by
 by_cases h6:t.length<6;·grind[TB]
 ·obtain⟨x,y,a,b,c,d,r,rfl⟩:=six h6;simp only[NJ]at h;by_cases hc:x=92/\y=117/\[a,b,c,d].all Jr=true;·rw[ah hc]at h;simp only[aj]at h;subst h;have:=Wm [a,b,c,d] 0 hc.2.2;simp_all
  simp_all
def Qd (n:Nat):Option UInt8:=if n=34 then some 34 else if n=92 then some 92 else if n=47 then some 47 else if n=98 then some 8 else if n=102 then some 12 else if n=110 then some 10 else if n=114 then some 13 else if n=116 then some 9 else none
def ACA (hi lo:Nat):Nat:=65536+(hi-55296) * 1024+lo-56320
def Ou (t:B8):B8×Nat×Int:=match NJ t with
 | some hi=>if 55296<=hi/\hi<=56319 then match NJ (t.drop 6)with |some lo=>if 56320<=lo/\lo<=57343 then(U9 (ACA hi lo),12,0)else([],0,7)|none=>([],0,7) else if 56320<=hi/\hi<=57343 then([],0,7)else(U9 hi,6,0)
 | none=>match t with
 |_::c::_=>match Qd c.toNat with|some b=>([b],2,0)|none=>([],0,130)
 |_=>([],0,130)
def ATu (i:Nat) (r:B8×Nat×Int):B8×Int×Int:=if r.2.2=0 then(r.1,((i+r.2.1:Nat):Int),0)else([],0,r.2.2)
theorem AAL{i n:Nat}{x:B8}:ATu i (x,n,0)=(x,((i+n:Nat):Int),0):=rfl
theorem YB{i:Nat}:ATu i ([],0,7)=([],0,7):=rfl
theorem ABK{i:Nat}:ATu i ([],0,130)=([],0,130):=rfl
def AXj: ∀j:Nat,j<8->(Dv [34,92,47,98,102,110,114,116] j).2=1:=by intro j h;match j,h with |0,_=>rfl|1,_=>rfl|2,_=>rfl|3,_=>rfl|4,_=>rfl|5,_=>rfl|6,_=>rfl|7,_=>rfl
def X6 (n:Nat):Nat->Nat->Option UInt8 |0,_=>none|k+1,j=>if([34,92,47,98,102,110,114,116]:List Nat)[j]?=some n then([34,92,47,8,12,10,13,9]:B8)[j]? else X6 n k (j+1)
def ABD{l:B8}{i:Nat}{c:UInt8} (hc:idx l ((i+1:Nat):Int)=some c) (hb:i+10<=2^60) (k2:Unit->Option (B8×Int×Int)):∀(m k j:Nat),j+m=8->m<k->Cz N l (i:Int) k2 k j=match X6 c.toNat m j with|some b=>some ([b],((i+2:Nat):Int),0)|none=>k2 ()
 | 0,k+1,j,h,_=>by grind[Cz,X6]
 | m+1,k+1,j,h,hk=>by
  rw[Cz];have hj:j<8:=fy;have w1:wr .i64 ((i:Int)+1)=((i+1:Nat):Int):=by grind[AO]
  have w2:wr .i64 ((i:Int)+2)=((i+2:Nat):Int):=by grind[AO]
  have w3:wr .i64 ((j:Int)+1)=((j+1:Nat):Int):=by grind[AO]
  simp only[hj,bg,av,w1,w2,w3,hc,aa,AXj j hj];rw[ABD hc hb k2 m k (j+1) fy fy,X6];have hcn:=c.toNat_lt;obtain⟨x,y,e1,e2,e3,e4⟩: ∃x y:UInt8,idx ([34,92,47,98,102,110,114,116]:B8) (j:Int)=some x/\([34,92,47,98,102,110,114,116]:List Nat)[j]?=some x.toNat/\([34,92,47,8,12,10,13,9]:B8)[j]?=some y/\sub ([34,92,47,8,12,10,13,9]:B8) (j:Int) ((j+1:Nat):Int)=some [y]:=by match j,hj with |0,_=>exact⟨_,_,rfl,rfl,rfl,rfl⟩|1,_=>exact⟨_,_,rfl,rfl,rfl,rfl⟩|2,_=>exact⟨_,_,rfl,rfl,rfl,rfl⟩|3,_=>exact⟨_,_,rfl,rfl,rfl,rfl⟩|4,_=>exact⟨_,_,rfl,rfl,rfl,rfl⟩|5,_=>exact⟨_,_,rfl,rfl,rfl,rfl⟩|6,_=>exact⟨_,_,rfl,rfl,rfl,rfl⟩|7,_=>exact⟨_,_,rfl,rfl,rfl,rfl⟩
  rw[e1,aa,e2,e3,e4,aa];by_cases h:x.toNat=c.toNat;·grind[AC]
  ·have:(AC x==AC c)=false:=by simp only[AC,cd,dU];omega
   grind
def AXO (c:UInt8):X6 c.toNat 8 0=Qd c.toNat:=BH (f:=λn=>X6 n 8 0) (g:=Qd) (by kernel_rfl) c
def ABg{hi lo:Nat} (h1:55296<=hi/\hi<=56319) (h2:56320<=lo/\lo<=57343):DL ((ACA hi lo:Nat):Int)=true:=by
 have h:65536<=ACA hi lo/\ACA hi lo<=1114111:=by unfold ACA;omega
 generalize ACA hi lo=n at h;simp only[DL,az,bE,aq];omega
def AcG{hi lo:Nat} (h1:55296<=hi/\hi<=56319) (h2:56320<=lo/\lo<=57343):wr .i64 (wr .i64 (wr .i64 (65536+wr .i64 (wr .i64 ((hi:Int)-55296) * 1024))+(lo:Int))-56320)=((ACA hi lo:Nat):Int):=by rw[AO (n:=(hi:Int)-55296) fy,AO (n:=((hi:Int)-55296) * 1024) fy,AO (n:=65536+((hi:Int)-55296) * 1024) fy,AO (n:=65536+((hi:Int)-55296) * 1024+(lo:Int)) fy,AO fy];unfold ACA;omega
def APi{l t:B8}{i:Nat} (ht:l.drop i=t) (hi:i<=l.length) (hb:l.length<=2^50) (hN:9<=N) (k2:Unit->Option (B8×Int×Int)):(if decide (((i+1:Nat):Int)<(l.length:Int))=true then Cz N l (i:Int) k2 N 0 else k2 ())=match t with
 |_::c::_=>(match Qd c.toNat with|some b=>some ([b],((i+2:Nat):Int),0)|none=>k2 ())
 |_=>k2 ():=by have hl:=BM ht hi;match t,ht,hl with | [],ht,hl=>simp only[ap]at hl;have: ¬((i+1:Nat):Int)<(l.length:Int):=fy;simp only[this,aT,al,au]| [_],ht,hl=>simp only[ag,ap]at hl;simp_all| _::c::r,ht,hl=>simp only[ag]at hl;have:((i+1:Nat):Int)<(l.length:Int):=fy;simp only[this,bg,av];rw[ABD (c:=c) (IJ ht rfl) fy k2 8 N 0 fy fy,AXO]
def Ub (t:B8):B8×Nat×Int:=match t with
 |_::c::_=>(match Qd c.toNat with|some b=>([b],2,0)|none=>([],0,130))
 |_=>([],0,130)
def YR{t:B8} (h:NJ t=none):Ou t=Ub t:=by simp_all[Ou,Ub]
def YQ{t:B8}{hi:Nat} (h:NJ t=some hi):Ou t=((if 55296<=hi/\hi<=56319 then match NJ (t.drop 6)with |some lo=>if 56320<=lo/\lo<=57343 then(U9 (ACA hi lo),12,0)else([],0,7)|none=>([],0,7) else if 56320<=hi/\hi<=57343 then([],0,7)else(U9 hi,6,0)):B8×Nat×Int):=by simp_all[Ou]
def Uc{n:Nat} (h:DL (n:Int)=true):encR (n:Int)=(U9 n,0):=by simp_all[encR]
def AAX{n:Nat} (h:DL (n:Int)=false):encR (n:Int)=([],4):=by simp_all[encR]
def AiP{l r:B8}{i:Nat} (ht:l.drop i=92::117::r) (hi:i<=l.length) (hb:l.length<=2^50) (hN:9<=N) (k2:Unit->Option (B8×Int×Int)):(if decide (((i+1:Nat):Int)<(l.length:Int))=true then Cz N l (i:Int) k2 N 0 else k2 ())=k2 ():=by rw[APi ht hi hb hN k2];grind[Qd]
def ARt{l t:B8}{i:Nat} (ht:l.drop i=t) (hi:i<=l.length) (hb:l.length<=2^50) (hN:9<=N):KQ N l (i:Int)=some (ATu i (Ou t)):=by
 have hl:=BM ht hi;unfold KQ;have w1:wr .i64 ((i:Int)+1)=((i+1:Nat):Int):=by grind[AO]
 have w6:wr .i64 ((i:Int)+6)=((i+6:Nat):Int):=by grind[AO]
 have w12:wr .i64 ((i:Int)+12)=((i+12:Nat):Int):=by grind[AO]
 simp only[AA,w1,w6,w12];cases hu:NJ t with
 | none=>refine(APi ht hi hb hN _).trans ?_;simp only[Xc ht hi hb,hu];rw[YR hu];simp only[aa,al,au];match t with |[]=>rfl|[_]=>rfl| _::c::r=>simp only[Ub];cases Qd c.toNat<;>rfl
 | some hi'=>
  obtain⟨h1,h2,r,rfl⟩:=Wq hu;refine(AiP ht hi hb hN _).trans ?_;rw[YQ hu];rw[ABr hu ht hi hb,aa];rw[ah rfl];by_cases c1:55296<=hi'/\hi'<=56319
  ·have d1: ¬(hi':Int)<55296:=fy;have d2: ¬(hi':Int)>57343:=fy;have d3: ¬(hi':Int)>56319:=fy;simp only[c1,d1,d2,d3,d8,av,aT,al,au];have ht6:l.drop (i+6)=(92::117::r).drop 6:=by grind[List.drop_drop]
   cases hu2:NJ ((92::117::r).drop 6)with
   |none=>rw[ASy hu2 ht6 fy hb,aa,ae fB];grind[YB]
   | some lo=>
    rw[ABr hu2 ht6 fy hb,aa,ah rfl];simp only[];by_cases c2:56320<=lo/\lo<=57343;·have e1: ¬(lo:Int)<56320:=fy;have e2: ¬(lo:Int)>57343:=fy;have key:=WQ (N:=N) ((ACA hi' lo:Nat):Int);rw[Uc (ABg c1 c2)]at key;rw[ah c2,AAL];simp only[e1,e2,aT,al,au];rw[AcG c1 c2,key,aa]
    ·by_cases c3:(lo:Int)<56320;·simp only[c3,bg,av,c2,au,YB]
     ·have e2:(lo:Int)>57343:=fy;simp only[c3,e2,bg,aT,al,au,av,c2,YB]
  ·by_cases c2:56320<=hi'/\hi'<=57343;·have d1: ¬(hi':Int)<55296:=fy;have d2: ¬(hi':Int)>57343:=fy;have d3:(hi':Int)>56319:=fy;simp only[c1,c2,d1,d2,d3,d8,av,aT,bg,al,au];rw[Xc (t:=(92::117::r).drop 6) (by grind[List.drop_drop]) fy hb];simp only[aa,AAL,YB,ABK]
   ·have hp:DL (hi':Int)=true:=by simp only[DL,az,bE,aq];omega
    rw[ae c1,ae c2];by_cases c3:(hi':Int)<55296;·simp only[c3,bg,av];rw[WQ,Uc hp];simp only[aa,AAL,YB,ABK]
    ·have d2:(hi':Int)>57343:=fy;simp only[c3,d2,bg,aT,al,au,av];rw[WQ,Uc hp];simp only[aa,AAL,YB,ABK]
def AUN{l t:B8}{i:Nat} (ht:l.drop i=t) (hi:i<=l.length) (hb:l.length<=2^50) (hN:9<=N):∃q:TokenReader,IL N ⟨l,(i:Int)⟩=some ((Ou t).1,(Ou t).2.2,q)/\((Ou t).2.2=0->q=⟨l,((i+(Ou t).2.1:Nat):Int)⟩):=by
 have hl:=BM ht hi;unfold IL;rw[AO3 ht hi hb,aa];cases hu:NJ t with
 | none=>
  have w1:wr .i64 ((i:Int)+1)=((i+1:Nat):Int):=by rw[AO fy];simp
  rw[YR hu];simp only[al,au,w1,AA];unfold K3;match t,ht,hl with
  | [],ht,hl=>simp only[ap]at hl;have c: ¬((i+1:Nat):Int)<(l.length:Int):=fy;have c':((i+1:Nat):Int)>=(l.length:Int):=fy;simp only[c,aT,al,au,aa];simp only[strings_IndexByte,Bf,aa,c',bg,av];exact⟨_,rfl,λh=>by cases h⟩
  | [_],ht,hl=>simp only[ap,ag]at hl;have c: ¬((i+1:Nat):Int)<(l.length:Int):=fy;have c':((i+1:Nat):Int)>=(l.length:Int):=fy;simp only[c,aT,al,au,aa];simp only[strings_IndexByte,Bf,aa,c',bg,av];exact⟨_,rfl,λh=>by cases h⟩
  | x::c::r,ht,hl=>
   simp only[ag]at hl;have d:((i+1:Nat):Int)<(l.length:Int):=fy;have d': ¬((i+1:Nat):Int)>=(l.length:Int):=fy;have hc:=IJ (j:=1) ht rfl;have w2:wr .i64 (((i+1:Nat):Int)+1)=((i+2:Nat):Int):=by rw[AO fy];omega
   simp only[d,bg,av];rw[hc,aa,aa];simp only[strings_IndexByte,Bf,aa,d',aT,al,au,JF,w2];have key:=BH (f:=λn=>if decide (Go.Lib.indexByte ([34,92,47,98,102,110,114,116]:B8) (UInt8.ofNat n)<0)=true then none else sub ([34,92,47,8,12,10,13,9]:B8) (Go.Lib.indexByte [34,92,47,98,102,110,114,116] (UInt8.ofNat n)) (wr .i64 (Go.Lib.indexByte [34,92,47,98,102,110,114,116] (UInt8.ofNat n)+1))) (g:=λn=>(Qd n).map λb=>[b]) (by kernel_rfl) c;simp only[bo]at key;by_cases hneg:Go.Lib.indexByte ([34,92,47,98,102,110,114,116]:B8) c<0
   ·simp only[hneg,bg,av]at key⊢;have:Qd c.toNat=none:=by cases hs:Qd c.toNat with |none=>rfl|some b=>rw[hs]at key;cases key
    simp only[Ub,this];exact⟨_,rfl,λh=>by cases h⟩
   ·simp only[hneg,aT,al,au]at key⊢;cases hs:Qd c.toNat with
    | none=>
     exfalso;rw[hs]at key;have f: ∀c:UInt8,(if decide (Go.Lib.indexByte ([34,92,47,98,102,110,114,116]:B8) c<0)=true then true else(Qd c.toNat).isSome)=true:=by intro c;have:=BH (f:=λn=>if decide (Go.Lib.indexByte ([34,92,47,98,102,110,114,116]:B8) (UInt8.ofNat n)<0)=true then true else(Qd n).isSome) (g:=λn=>true) (by kernel_rfl) c;simpa only[bo]using this
     have:=f c;simp only[hneg,aT,al,au,hs]at this;cases this
    | some b=>rw[hs]at key;rw[key];simp only[Ub,hs,aQ,aa];exact⟨_,rfl,λ_=>rfl⟩
 | some hi'=>
  obtain⟨h1,h2,r,rfl⟩:=Wq hu;rw[YQ hu];simp only[av,AA];by_cases c1:55296<=hi'/\hi'<=56319
  ·have d1:(hi':Int)>=55296:=fy;have d2:(hi':Int)<=56319:=fy;have hp:DL (hi':Int)=false:=by
    have: ¬DL (hi':Int)=true:=by simp only[DL,az,bE,aq];omega
    simpa using this
   simp only[c1,d1,d2,d8,av,bg];rw[AO3 (t:=(92::117::r).drop 6) (by rw[<-aF,ht]) fy hb,aa];cases hu2:NJ ((92::117::r).drop 6)with
   | none=>simp only[al,au];rw[Pk fy,AAX hp];exact⟨_,rfl,λh=>by cases h⟩
   | some lo=>
    simp only[av];by_cases c2:56320<=lo/\lo<=57343;·have e1:(lo:Int)>=56320:=fy;have e2:(lo:Int)<=57343:=fy;simp only[e1,e2,c2,d8,av,bg];rw[AcG c1 c2,Pk fy,Uc (ABg c1 c2)];simp only[aa,eK,al,au,show i+6+6=i+12 by omega];exact⟨_,rfl,λ_=>rfl⟩
    ·by_cases c3:(lo:Int)>=56320;·have e2: ¬(lo:Int)<=57343:=fy;simp only[c3,e2,bg,aT,al,au,av,c2];rw[Pk fy,AAX hp];exact⟨_,rfl,λh=>by cases h⟩
     ·simp only[c3,aT,al,au,c2];rw[Pk fy,AAX hp];exact⟨_,rfl,λh=>by cases h⟩
  ·rw [ae c1];have hk:(if decide ((hi':Int)>=55296)=true then decide ((hi':Int)<=56319)else false)=false:=by
    by_cases c:(hi':Int)>=55296;·have: ¬(hi':Int)<=56319:=fy;simp[c,this]
    ·simp[c]
   by_cases c2:56320<=hi'/\hi'<=57343
   ·rw [ah c2];have hp:DL (hi':Int)=false:=by
     have: ¬DL (hi':Int)=true:=by simp only[DL,az,bE,aq];omega
     simpa using this
    have d1:(hi':Int)>=55296:=fy;have d2: ¬(hi':Int)<=56319:=fy;simp only[d1,d2,bg,aT,al,av,au];rw[Pk fy,AAX hp];exact⟨_,rfl,λh=>by cases h⟩
   ·rw[ae c2];have hp:DL (hi':Int)=true:=by simp only[DL,az,bE,aq];omega
    by_cases c3:(hi':Int)>=55296;·have d2: ¬(hi':Int)<=56319:=fy;simp only[c3,d2,bg,aT,al,av,au];rw[Pk fy,Uc hp];exact⟨_,rfl,λ_=>rfl⟩
    ·simp only[c3,aT,al,au];rw[Pk fy,Uc hp];exact⟨_,rfl,λ_=>rfl⟩
end
end Go.VM
namespace Go.VM
section
variable{N:Nat}
def AQH{t:B8}{r n:Nat} (h:YK t=some (r,n)):1<=n/\n<=t.length/\n<=4:=by
 match t,h with
 |[],h=>cases h
 | a :: t,h=>
  simp only[YK]at h;split at h;·simp only[aj,aD]at h;obtain⟨_,rfl⟩:=h;simp
  ·split at h
   ·match t,h with
    |[],h=>cases h
    | b::t,h=>
     simp only at h;split at h;·simp only[aj,aD]at h;obtain⟨_,rfl⟩:=h;simp
     grind
   ·split at h
    ·match t,h with
     |[],h=>cases h
     |[_],h=>cases h
     | b::c::t,h=>
      simp only at h;split at h;·simp only[aj,aD]at h;obtain⟨_,rfl⟩:=h;simp
      grind
    ·split at h
     ·match t,h with
      |[],h=>cases h
      |[_],h=>cases h
      |[_,_],h=>cases h
      | b::c::d::t,h=>
       simp only at h;split at h;·simp only[aj,aD]at h;obtain⟨_,rfl⟩:=h;simp
       grind
     grind
theorem AQU (r:Nat):1<=(U9 r).length/\(U9 r).length<=4:=by grind[U9]
def ABc{t:B8} (h:(Ou t).2.2=0):2<=(Ou t).2.1/\(Ou t).2.1<=t.length/\(Ou t).1.length<=4/\(Ou t).1.length<=(Ou t).2.1:=by
 cases hu:NJ t with
 | none=>rw[YR hu]at h⊢;match t,h with |[],h=>cases h|[_],h=>cases h| _::c::r,h=>grind[Ub,Qd]
 | some hi=>
  obtain⟨h1,h2,_⟩:=Wq hu;rw[YQ hu]at h⊢;by_cases c1:55296<=hi/\hi<=56319
  ·simp only[c1,d8,av]at h⊢;cases hu2:NJ (t.drop 6)with
   |none=>grind
   | some lo=>
    obtain⟨_,h3,_⟩:=Wq hu2;rw[hu2]at h;simp only at h⊢;by_cases c2:56320<=lo/\lo<=57343;·simp only[c2,d8,av]at h⊢;have:=AQU (ACA hi lo);grind
    simp_all
  ·rw[ae c1]at h⊢;by_cases c2:56320<=hi/\hi<=57343;·simp_all
   ·rw[ae c2];grind[AQU]
def H6:Nat->B8->Nat->B8->B8×Nat×Int |0,_,_,_=>([],0,130)|_+1,[],_,_=>([],0,130)| k+1,c::t,i,out=>if c.toNat=34 then(out,i+1,0) else if c.toNat=92 then if(Ou (c::t)).2.2=0 then H6 k ((c::t).drop (Ou (c::t)).2.1) (i+(Ou (c::t)).2.1) (out++(Ou (c::t)).1) else([],0,(Ou (c::t)).2.2) else if c.toNat<32 then([],0,130) else match YK (c::t)with |some (_,n)=>H6 k ((c::t).drop n) (i+n) (out++(c::t).take n)|none=>([],0,7)
def outT (r:B8×Nat×Int):B8×Int×Int:=if r.2.2=0 then(r.1,(r.2.1:Int),0)else([],0,r.2.2)
def ACc: ∀(k:Nat) (t:B8) (i:Nat) (out:B8),(H6 k t i out).2.2=0->i<(H6 k t i out).2.1/\(H6 k t i out).2.1<=i+t.length/\(H6 k t i out).1.length<=out.length+t.length
 |0,t,i,out,h=>by grind[H6]
 |k+1,[],i,out,h=>by grind[H6]
 | k+1,c::t,i,out,h=>by
  rw[H6]at h⊢;split at h;·simp_all
  ·rename_i c1;split at h
   ·rename_i c2;split at h;·rename_i c3;have:=ACc k _ _ _ h;obtain⟨e1,e2,e3,e4⟩:=ABc c3;rw[ae c1,ah c2,ah c3];grind
    grind
   ·rename_i c2;split at h;·cases h
    ·rename_i c3;cases hd:YK (c::t)with |none=>grind| some p=>obtain⟨r,n⟩:=p;rw[hd]at h;rw[ae c1,ae c2,ae c3];have:=ACc k _ _ _ h;grind
def AAk{n:Nat}{k:Nat}:((n:Int)==(k:Int))=decide (n=k):=by grind
def Ajx (c:UInt8):(AC c==34)=decide (c.toNat=34):=AAk (k:=34)
def ApA (c:UInt8):(AC c==92)=decide (c.toNat=92):=AAk (k:=92)
def ApJ (c:UInt8):decide (AC c<32)=decide (c.toNat<32):=by have:=c.toNat_lt;simp only[AC];congr 1;simp only[dO];omega
theorem ACF{i r n:Nat}:Lt i (some (r,n))=((r:Int),((i+n:Nat):Int),0):=rfl
def head_drop{l t:B8}{c:UInt8}{i:Nat} (ht:l.drop i=c::t):idx l (i:Int)=some c:=by have:=IJ (j:=0) ht rfl;omega
section
variable{l:B8}
def WF (hb:l.length<=2^50) (hN:9<=N) (k2:Unit->Option (B8×Int×Int)) (hk:k2 ()=some ([],0,130)): ∀(k:Nat) (t:B8) (i:Nat) (out:B8),l.drop i=t->i<=l.length->t.length<k->out.length<=i->Eh N l k2 k out (i:Int)=some (outT (H6 k t i out))
 |0,t,i,out,ht,hi,h,ho=>by omega
 | k+1,[],i,out,ht,hi,h,ho=>by have hl:=BM ht hi;simp only[ap]at hl;have c: ¬(i:Int)<(l.length:Int):=fy;rw[Eh,H6];simp only[c,aT,al,au,hk];rfl
 | k+1,c::t,i,out,ht,hi,h,ho=>by
  have hl:=BM ht hi;simp only[ag]at hl h;have c0:(i:Int)<(l.length:Int):=fy;have w1:wr .i64 ((i:Int)+1)=((i+1:Nat):Int):=by grind[AO]
  rw[Eh,H6];rw[ah (aA c0),head_drop ht,aa,Ajx,ApA,ApJ,w1];by_cases c1:c.toNat=34;·rw[ah (aA c1),ah c1];rfl
  ·rw [ae (by grind),ae c1];by_cases c2:c.toNat=92
   ·rw[ah (aA c2),ah c2,ARt ht hi hb hN,aa];by_cases c3:(Ou (c::t)).2.2=0
    ·obtain⟨e1,e2,e3,e4⟩:=ABc c3;have ho2:ATu i (Ou (c::t))=((Ou (c::t)).1,((i+(Ou (c::t)).2.1:Nat):Int),0):=by simp_all[ATu]
     rw[ho2,ae fA,AJ (by grind[AL]),ah c3];simp only[ag]at e2;exact WF hb hN k2 hk k _ _ _ (by grind[List.drop_drop]) fy (by grind) (by grind)
    simp_all[ATu,Ou,outT]
   ·rw [ae (by grind),ae c2];by_cases c3:c.toNat<32;·rw[ah (aA c3),ah c3];rfl
    ·rw[ae (by grind),ae c3,Adk fy fy fy,aa,ht];cases hd:YK (c::t)with |none=>rfl| some p=>obtain⟨r,n⟩:=p;obtain⟨e1,e2,e3⟩:=AQH hd;simp only[ag]at e2;rw[ACF,ae fA,BB l i (i+n) fy fy,aa,bf,ht];rw[AJ (by grind[AL])];exact WF hb hN k2 hk k _ _ _ (by grind[List.drop_drop]) fy (by grind) (by grind)
def Aif (hb:l.length<=2^50) (hN:l.length+9<=N){i:Nat} (hi:i<l.length):Mm N l (i:Int)=some (outT (H6 N (l.drop (i+1)) (i+1) [])):=by unfold Mm;rw[AA,AO fy];exact WF hb fy _ rfl N _ (i+1) [] rfl fy (by grind) fA
def V9 (hb:l.length<=2^40) (hN:9<=N) (k2:Bool×B8×B8×Int->Option (B8×Int×TokenReader)) (hk: ∀q,∃q',k2 q=some ([],130,q')): ∀(k:Nat) (t:B8) (i:Nat) (ad:Bool) (out:B8),l.drop i=t->i<=l.length->t.length<k->out.length<=i->∃q,Cb N k2 k ad out l (i:Int)=some ((outT (H6 k t i out)).1,(outT (H6 k t i out)).2.2,q)/\((H6 k t i out).2.2=0->q=⟨l,((H6 k t i out).2.1:Int)⟩)
 |0,t,i,ad,out,ht,hi,h,ho=>by omega
 | k+1,[],i,ad,out,ht,hi,h,ho=>by have hl:=BM ht hi;simp only[ap]at hl;have c: ¬(i:Int)<(l.length:Int):=fy;rw[Cb,H6];obtain⟨q,hq⟩:=hk (ad,out,l,(i:Int));rw[ae (by simpa using c),hq];exact⟨q,rfl,λh=>by cases h⟩
 | k+1,c::t,i,ad,out,ht,hi,h,ho=>by
  have hl:=BM ht hi;simp only[ag]at hl h;have c0:(i:Int)<(l.length:Int):=fy;have w1:wr .i64 ((i:Int)+1)=((i+1:Nat):Int):=by rw[AO fy];simp
  rw[Cb,H6];rw[ah (aA c0),head_drop ht,aa,Ajx,ApA,ApJ,w1];have ws: ∀x:B8,x.length<=4->AV N (StringsBuilder.mk ad out) x=some ((x.length:Int),(),StringsBuilder.mk true (out++x)):=by intro x hx;unfold AV E5;cases ad<;>simp only[al,au,av,aa]<;>rw[AJ (by unfold CW;omega)]
  by_cases c1:c.toNat=34;·rw[ah (aA c1),ah c1];exact⟨_,rfl,λ_=>rfl⟩
  ·rw [ae (by simpa using c1),ae c1];by_cases c2:c.toNat=92
   ·rw[ah (aA c2),ah c2];obtain⟨q,hq,hq0⟩:=AUN (N:=N) ht hi fy hN;rw[hq,aa];by_cases c3:(Ou (c::t)).2.2=0;·obtain⟨e1,e2,e3,e4⟩:=ABc c3;rw[ae (by simpa using c3),ws _ e3,aa,ah c3];rw[hq0 c3];simp only[ag]at e2;exact V9 hb hN k2 hk k _ _ true _ (by rw[<-aF,ht]) fy (by simp only[aB,ag];omega) (by simp only[an];omega)
    ·rw[ah (by simpa using c3),ae c3];refine⟨q,?_,λh=>absurd h c3⟩;unfold outT;rw[ae c3]
   ·rw [ae (by simpa using c2),ae c2];by_cases c3:c.toNat<32;·rw[ah (aA c3),ah c3];exact⟨_,rfl,λh=>by cases h⟩
    ·rw[ae (by simpa using c3),ae c3];unfold Kz;simp only[AA];rw[AfF fy fy fy,aa,ht];cases hd:YK (c::t)with |none=>exact⟨_,rfl,λh=>by cases h⟩| some p=>obtain⟨r,n⟩:=p;obtain⟨e1,e2,e3⟩:=AQH hd;simp only[ag]at e2;rw[ACF,ae fA,BB l i (i+n) fy fy,aa,bf,ht,aa];rw[ae fA,ws _ (by rw[bG];omega),aa];exact V9 hb hN k2 hk k _ _ true _ (by rw[<-aF,ht]) fy (by simp only[aB,ag];omega) (by rw[an,bG];omega)
def AlU (hb:l.length<=2^40) (hN:l.length+9<=N){i:Nat} (hi:i<l.length): ∃q,Jd N ⟨l,(i:Int)⟩=some ((outT (H6 N (l.drop (i+1)) (i+1) [])).1,(outT (H6 N (l.drop (i+1)) (i+1) [])).2.2,q)/\((H6 N (l.drop (i+1)) (i+1) []).2.2=0->q=⟨l,((H6 N (l.drop (i+1)) (i+1) []).2.1:Int)⟩):=by unfold Jd;rw[AA,AO (by simp only[];omega)];exact V9 hb fy _ (λq=>⟨_,rfl⟩) N _ (i+1) false [] rfl fy (by rw[aB];omega) fA
end
end
end Go.VM
namespace Go.VM
section
variable{N:Nat}
theorem IB{α:Type} (p:α->Bool) (t:List α):t.take (t.takeWhile p).length=t.takeWhile p:=(List.prefix_iff_eq_take.1 (List.takeWhile_prefix p)).symm
theorem KC{α:Type} (p:α->Bool) (t:List α):(t.takeWhile p).length<=t.length:=(da p).length_le
def DI (c:UInt8):Bool:=decide (48<=c.toNat)&&decide (c.toNat<=57)
def ABL (n:Nat):Bool:=(decide (65<=n)&&decide (n<=90))||(decide (97<=n)&&decide (n<=122))
def BU (c:UInt8):Bool:=ABL c.toNat
def wsN (n:Nat):Bool:=decide (n=32)||decide (n=9)||decide (n=10)||decide (n=13)
def wsB (c:UInt8):Bool:=wsN c.toNat
def QY (c:UInt8):Cu N (AC c)=some (DI c):=BH (f:=λn=>Cu N (n:Int)) (g:=λn=>some (decide (48<=n)&&decide (n<=57))) (by kernel_rfl) c
def OP (c:UInt8):Bh N (AC c)=some (DI c):=BH (f:=λn=>Bh N (n:Int)) (g:=λn=>some (decide (48<=n)&&decide (n<=57))) (by kernel_rfl) c
def N9 (c:UInt8):F9 N (AC c)=some (BU c):=BH (f:=λn=>F9 N (n:Int)) (g:=λn=>some (ABL n)) (by kernel_rfl) c
def PX (c:UInt8):EG N (AC c)=some (BU c):=BH (f:=λn=>EG N (n:Int)) (g:=λn=>some (ABL n)) (by kernel_rfl) c
def AnZ (c:UInt8):Ot N (AC c)=some (wsB c):=BH (f:=λn=>Ot N (n:Int)) (g:=λn=>some (wsN n)) (by kernel_rfl) c
def AQV (c:UInt8) (k2:Unit->Option Bool) (h:k2 ()=some false): ∀l:B8,Gj N (AC c) k2 l=some (l.contains c)
 |[]=>by grind[Gj]
 | x::l=>by
  rw[Gj,AQV c k2 h l,bb];by_cases e:x=c;·grind
  ·have e1: ¬c=x:=λh=>e h.symm;have:(AC x==AC c)=false:=by have: ¬x.toNat=c.toNat:=λh=>e (ch.1 h);simp only[AC,cd,dU];omega
   grind
def N7 (c:UInt8) (l:B8) (h:l.length<=1000):E8 N (AC c) l=some (l.contains c):=by unfold E8;rw[AA,BS fy];exact AQV c _ rfl l
def AoM (c:UInt8):NA N (AC c)=some (wsB c):=by unfold NA;rw[N7 _ _ fB,aa];have:=BH (f:=λn=>some (([32,9,10,13]:B8).contains (UInt8.ofNat n))) (g:=λn=>some (wsN n)) (by kernel_rfl) c;simp only[bo]at this;exact this
def index_ge: ∀(l:B8) (c:UInt8),decide (Go.Lib.indexByte l c>=0)=l.contains c
 |[],c=>rfl
 | x::l,c=>by
  have ih:=index_ge l c;have h:=Go.Lib.indexByte_ge l c;rw[Go.Lib.indexByte,bb];by_cases e:x=c;·grind
  ·have e1:(c==x)=false:=by grind
   have e2:(x==c)=false:=by grind
   rw[e1,e2,be,<-ih];simp only[al,au];by_cases k:Go.Lib.indexByte l c= -1;·grind
   ·have k':(Go.Lib.indexByte l c== -1)=false:=by grind
    rw[k'];simp only[al,au];congr 1;simp only[dO];omega
def Ij (l:B8) (c:UInt8):strings_IndexByte N l (AC c)=some (Go.Lib.indexByte l c):=by grind[strings_IndexByte,Bf,JF]
section
variable{l:B8}
def ANC (hb:l.length<=2^50) (s:Int) (k2:Int->Option (B8×TokenReader)): ∀(t:B8) (i:Nat),l.drop i=t->i<=l.length->Ah N ⟨l,s⟩ k2 t.length (i:Int)=k2 ((i+(t.takeWhile DI).length:Nat):Int)
 |[],i,ht,hi=>by rw[ap,Ah];rfl
 | c::t,i,ht,hi=>by
  have hl:=BM ht hi;simp only[ag]at hl;rw[ag,Ah];rw[head_drop ht,aa,QY,aa,aJ];cases DI c;·simp
  ·rw[ah rfl,ah rfl,show(i:Int)+1=((i+1:Nat):Int) by simp,ANC hb s k2 t (i+1) (by rw[<-aF,ht];rfl) fy];rw[ag];congr 2;omega
def AOh (hb:l.length<=2^50) (s:Int) (k2:Int->Option (B8×TokenReader)): ∀(t:B8) (i:Nat),l.drop i=t->i<=l.length->Ai N ⟨l,s⟩ k2 t.length (i:Int)=k2 ((i+(t.takeWhile BU).length:Nat):Int)
 |[],i,ht,hi=>by rw[ap,Ai];rfl
 | c::t,i,ht,hi=>by
  have hl:=BM ht hi;simp only[ag]at hl;rw[ag,Ai];rw[head_drop ht,aa,N9,aa,aJ];cases BU c;·simp
  ·rw[ah rfl,ah rfl,show(i:Int)+1=((i+1:Nat):Int) by simp,AOh hb s k2 t (i+1) (by rw[<-aF,ht];rfl) fy];rw[ag];congr 2;omega
def AOg (hb:l.length<=2^50) (s:Int) (k2:Int->Option (B8×TokenReader)): ∀(t:B8) (i:Nat),l.drop i=t->i<=l.length->Ao N ⟨l,s⟩ k2 t.length (i:Int)=k2 ((i+(t.takeWhile wsB).length:Nat):Int)
 |[],i,ht,hi=>by rw[ap,Ao];rfl
 | c::t,i,ht,hi=>by
  have hl:=BM ht hi;simp only[ag]at hl;rw[ag,Ao];rw[head_drop ht,aa,AnZ,aa,aJ];cases wsB c;·simp
  ·rw[ah rfl,ah rfl,show(i:Int)+1=((i+1:Nat):Int) by simp,AOg hb s k2 t (i+1) (by rw[<-aF,ht];rfl) fy];rw[ag];congr 2;omega
variable{t:B8}{i:Nat}
def Ua (p:UInt8->Bool) (ht:l.drop i=t) (hi:i<=l.length):sub l (i:Int) ((i+(t.takeWhile p).length:Nat):Int)=some (t.takeWhile p):=by have hl:=BM ht hi;have:=KC p t;rw[BB l i _ fy fy,bf,ht,IB]
def Afa (ht:l.drop i=t) (hi:i<=l.length) (hb:l.length<=2^50):Bp N ⟨l,(i:Int)⟩=some (t.takeWhile DI,⟨l,((i+(t.takeWhile DI).length:Nat):Int)⟩):=by have hl:=BM ht hi;unfold Bp;rw[AA,AJ (by simp only[];omega)];rw[show((l.length:Int)-(i:Int)).toNat=t.length by omega,ANC hb _ _ t i ht hi];simp only[];rw[Ua DI ht hi,aa]
def Anj (ht:l.drop i=t) (hi:i<=l.length) (hb:l.length<=2^50):Br N ⟨l,(i:Int)⟩=some (t.takeWhile BU,⟨l,((i+(t.takeWhile BU).length:Nat):Int)⟩):=by have hl:=BM ht hi;unfold Br;rw[AA,AJ (by simp only[];omega)];rw[show((l.length:Int)-(i:Int)).toNat=t.length by omega,AOh hb _ _ t i ht hi];simp only[];rw[Ua BU ht hi,aa]
def Akv (ht:l.drop i=t) (hi:i<=l.length) (hb:l.length<=2^50):DW N ⟨l,(i:Int)⟩=some (t.takeWhile wsB,⟨l,((i+(t.takeWhile wsB).length:Nat):Int)⟩):=by have hl:=BM ht hi;unfold DW;rw[AA,AJ (by simp only[];omega)];rw[show((l.length:Int)-(i:Int)).toNat=t.length by omega,AOg hb _ _ t i ht hi];simp only[];rw[Ua wsB ht hi,aa]
def Ed (set t:B8):Bool:=match t with|c::_=>set.contains c|[]=>false
def Tt (set:B8) (ht:l.drop i=t) (hi:i<=l.length) (hb:l.length<=2^50):Be N ⟨l,(i:Int)⟩ set=some (Ed set t,⟨l,((i+(if Ed set t=true then 1 else 0):Nat):Int)⟩):=by
 have hl:=BM ht hi;unfold Be;rw[AA];match t,ht,hl with
 | [],ht,hl=>simp only[ap]at hl;have c: ¬(i:Int)<(l.length:Int):=fy;rw[ae (by simpa using c)];rfl
 | c::t,ht,hl=>
  simp only[ag]at hl;have c0:(i:Int)<(l.length:Int):=fy;rw[ah (aA c0)];simp only[];rw[head_drop ht,aa,Ij,aa,index_ge,AO fy];have key: ∀b:Bool,(if b=true then some (true,(⟨l,(i:Int)+1⟩:TokenReader))else some (false,(⟨l,(i:Int)⟩:TokenReader)))=some (b,(⟨l,((i+(if b=true then 1 else 0):Nat):Int)⟩:TokenReader)):=by intro b;cases b<;>simp
  exact key _
def IC (t:B8):Nat:=(t.takeWhile DI).length
theorem SB (t:B8):IC t<=t.length:=KC _ _
def AEU (t:B8):(t.takeWhile DI==[])=decide (IC t=0):=by unfold IC;cases t.takeWhile DI<;>simp
def Aa (t:B8):Nat:=if Ed [45] t=true then 1 else 0
def Di (t:B8):Nat:=if Ed [48] t=true then 1 else IC t
def Ff (t:B8):Nat:=if Ed [46] t=true/\0<IC (t.drop 1)then 1+IC (t.drop 1)else 0
def Lx (t:B8):Nat:=if Ed [43,45] (t.drop 1)=true then 1 else 0
def Nt (t:B8):Nat:=if Ed [101,69] t=true/\0<IC (t.drop (1+Lx t))then 1+Lx t+IC (t.drop (1+Lx t))else 0
def Fh (t:B8):Nat:=if Di (t.drop (Aa t))=0 then 0 else Aa t+Di (t.drop (Aa t))+Ff (t.drop (Aa t+Di (t.drop (Aa t))))+Nt (t.drop (Aa t+Di (t.drop (Aa t))+Ff (t.drop (Aa t+Di (t.drop (Aa t))))))
theorem Lg{set t:B8} (h:Ed set t=true):0<t.length:=by cases t with |nil=>cases h|cons=>simp
theorem ACR (t:B8):Aa t<=t.length:=by grind[Aa,Lg]
theorem AAW (t:B8):Di t<=t.length:=by grind[Di,Lg,SB]
theorem ACX (t:B8):Ff t<=t.length:=by grind[Ff,Lg,SB,List.length_drop]
theorem AGh (t:B8):Nt t<=t.length:=by grind[Nt,Lg,SB,Lx,List.length_drop]
def AGX (t:B8):Fh t<=t.length:=by grind[Fh,ACR,AAW,Aa,ACX,Di,AGh,Ff,List.length_drop]
def ACj{f:Int} (ht:l.drop i=t) (hi:i<=l.length) (hb:l.length<=2^50):DZ N ⟨l,(i:Int)⟩ f=some ⟨l,if 0<IC t then((i+IC t:Nat):Int)else f⟩:=by
 unfold DZ;rw[Afa ht hi hb,aa];simp only[AEU];by_cases h:IC t=0;·rw[ah (aA h),ae fy]
 ·rw[ae (by simpa using h),ah fy];rfl
def RQ{a:Nat} (ht:l.drop i=t) (n:Nat) (h:a=i+n):l.drop a=t.drop n:=by grind[List.drop_drop]
def ABo (ht:l.drop i=t) (hi:i<=l.length) (hb:l.length<=2^50):if Fh t=0 then∃q,Dc N ⟨l,(i:Int)⟩=some ([],false,q)else Dc N ⟨l,(i:Int)⟩=some (t.take (Fh t),true,⟨l,((i+Fh t:Nat):Int)⟩):=by
 have hl:=BM ht hi;have h1:=ACR t;have h2:=AAW (t.drop (Aa t));have h3:=ACX (t.drop (Aa t+Di (t.drop (Aa t))));have h4:=AGh (t.drop (Aa t+Di (t.drop (Aa t))+Ff (t.drop (Aa t+Di (t.drop (Aa t))))));simp only[aB]at h2 h3 h4;unfold Dc;rw[Tt [45] ht hi hb,aa];change if Fh t=0 then∃q,AB _ _=some ([],false,q)else AB _ _=_;rw[show(if Ed [45] t=true then 1 else 0)=Aa t from rfl];have hta:=RQ ht (Aa t) rfl;rw[Tt [48] hta fy hb];simp only[aa];have rest: ∀a:Nat,a=i+(Aa t+Di (t.drop (Aa t)))->Di (t.drop (Aa t))≠0->(AB (λj11:TokenReader=>AB (λj19:TokenReader=>(sub j19.s (i:Int) j19.at_).bind λx29=>some (x29,true,j19)) λk20=>(Be N j11 ([101,69]:B8)).bind λy23=>if y23.1=true then (Be N y23.2 ([43,45]:B8)).bind λy25=>(DZ N y25.2 j11.at_).bind λy27=>k20 y27 else k20 y23.2) λk12=>(Be N ⟨l,(a:Int)⟩ ([46]:B8)).bind λy15=>if y15.1=true then (DZ N y15.2 (a:Int)).bind λy17=>k12 y17 else k12 y15.2)=some (t.take (Fh t),true,(⟨l,((i+Fh t:Nat):Int)⟩:TokenReader)):=by
  intro a ha hne;have htb:=RQ ht (Aa t+Di (t.drop (Aa t))) ha;have hnum:Fh t=Aa t+Di (t.drop (Aa t))+Ff (t.drop (Aa t+Di (t.drop (Aa t))))+Nt (t.drop (Aa t+Di (t.drop (Aa t))+Ff (t.drop (Aa t+Di (t.drop (Aa t)))))):=by unfold Fh;rw[ae hne]
  have last: ∀b:Nat,b=i+(Aa t+Di (t.drop (Aa t))+Ff (t.drop (Aa t+Di (t.drop (Aa t)))))->(AB (λj19:TokenReader=>(sub j19.s (i:Int) j19.at_).bind λx29=>some (x29,true,j19)) λk20=>(Be N ⟨l,(b:Int)⟩ ([101,69]:B8)).bind λy23=>if y23.1=true then (Be N y23.2 ([43,45]:B8)).bind λy25=>(DZ N y25.2 (b:Int)).bind λy27=>k20 y27 else k20 y23.2)=some (t.take (Fh t),true,(⟨l,((i+Fh t:Nat):Int)⟩:TokenReader)):=by
   intro b hb';have htc:=RQ ht _ hb';have fin: ∀e:Nat,e=i+Fh t->((sub l (i:Int) (e:Int)).bind λx29=>some (x29,true,(⟨l,(e:Int)⟩:TokenReader)))=some (t.take (Fh t),true,(⟨l,((i+Fh t:Nat):Int)⟩:TokenReader)):=by rintro e rfl;have:=AGX t;rw[BB l i _ fy fy,aa,bf,ht]
   rw[AA,Tt [101,69] htc fy hb,aa];generalize hc:t.drop (Aa t+Di (t.drop (Aa t))+Ff (t.drop (Aa t+Di (t.drop (Aa t)))))=c at *;by_cases he:Ed [101,69] c=true
   ·have hpos:=Lg he;have hcl:c.length=t.length-(Aa t+Di (t.drop (Aa t))+Ff (t.drop (Aa t+Di (t.drop (Aa t))))):=by rw[<-hc,aB]
    simp only[he,av];rw[Tt [43,45] (RQ htc 1 rfl) fy hb,aa];rw[show(if Ed [43,45] (c.drop 1)=true then 1 else 0)=Lx c from rfl];have hes:Lx c<=c.length-1:=by
     unfold Lx;split;·rename_i h;have:=Lg h;rw[aB]at this;omega
     ·omega
    rw[ACj (RQ htc (1+Lx c) fy) fy hb,aa];by_cases hr:0<IC (c.drop (1+Lx c));·rw[ah hr];refine fin _ ?_;rw[hnum,show Nt c=1+Lx c+IC (c.drop (1+Lx c)) by unfold Nt;rw[ah ⟨he,hr⟩]];omega
    ·rw[ae hr];refine fin _ ?_;rw[hnum,show Nt c=0 by unfold Nt;rw[ae (λh=>hr h.2)]];omega
   ·rw[cp]at he;simp only[he,al,au];refine fin _ ?_;rw[hnum,show Nt c=0 by unfold Nt;rw[ae (by rw[he];simp)]];omega
  rw[AA,Tt [46] htb fy hb,aa];generalize hc:t.drop (Aa t+Di (t.drop (Aa t)))=c at *;by_cases he:Ed [46] c=true
  ·have hpos:=Lg he;have hcl:c.length=t.length-(Aa t+Di (t.drop (Aa t))):=by rw[<-hc,aB]
   simp only[he,av];rw[ACj (RQ htb 1 rfl) fy hb,aa];by_cases hr:0<IC (c.drop 1);·rw[ah hr];refine last _ ?_;rw[show Ff c=1+IC (c.drop 1) by unfold Ff;rw[ah ⟨he,hr⟩]];omega
   ·rw[ae hr];refine last _ ?_;rw[show Ff c=0 by unfold Ff;rw[ae (λh=>hr h.2)]];omega
  ·rw[cp]at he;simp only[he,al,au];refine last _ ?_;rw[show Ff c=0 by unfold Ff;rw[ae (by rw[he];simp)]];omega
 have hnz:Fh t=0<->Di (t.drop (Aa t))=0:=by
  unfold Fh;constructor
  ·intro h;by_cases k:Di (t.drop (Aa t))=0;·exact k
   ·rw[ae k]at h;omega
  ·intro h;rw[ah h]
 by_cases h0:Ed [48] (t.drop (Aa t))=true
 ·have hin:Di (t.drop (Aa t))=1:=by unfold Di;rw[ah h0]
  rw[ae (by rw[hnz,hin];decide)];simp only[h0,av];rw[AA];simp only[al,au];exact rest _ (by rw[hin];omega) (by rw[hin];decide)
 ·have hin:Di (t.drop (Aa t))=IC (t.drop (Aa t)):=by unfold Di;rw[ae h0]
  rw[cp]at h0;simp only[h0,al,au,bU];try simp only[AA,aa]
  rw[Afa hta fy hb];simp only[aa,AA,AEU];by_cases hr:IC (t.drop (Aa t))=0;·rw[ah (by rw[hnz,hin];exact hr)];simp only[hr,bg,av];exact⟨_,rfl⟩
  ·rw[ae (by rw[hnz,hin];exact hr)];simp only[hr,aT,al,au];have:=rest (i+Aa t+IC (t.drop (Aa t))) (by rw[hin];omega) (by rw[hin];exact hr);simp only[AA]at this;exact this
end
end
end Go.VM
