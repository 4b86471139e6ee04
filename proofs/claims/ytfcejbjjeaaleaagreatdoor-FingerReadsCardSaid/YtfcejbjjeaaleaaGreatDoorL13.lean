import Derived.Test.YtfcejbjjeaaleaaGreatDoorL12
import Derived.Test.YtfcejbjjeaaleaaGreatDoorRd
set_option linter.defProp false
set_option linter.unusedVariables false
set_option linter.unusedSimpArgs false
namespace Go.VM
def EP{α β:Type} (f:JrdDecoder->α×JrdDecoder) (k:α->JrdDecoder->β×JrdDecoder):JrdDecoder->β×JrdDecoder:=λd=>k (f d).1 (f d).2
def sim{α:Type} (f g:JrdDecoder->α×JrdDecoder):Prop:= ∀d,(d.e≠0->(f d).2=d/\(g d).2=d)/\(d.e=0->(f d).2=(g d).2/\((f d).2.e=0->(f d).1=(g d).1))
def Ii{α β:Type}{f f':JrdDecoder->α×JrdDecoder}{k k':α->JrdDecoder->β×JrdDecoder} (h:sim f f') (hk: ∀a,sim (k a) (k' a)):sim (EP f k) (EP f' k'):=by
 intro d;obtain⟨h1,h2⟩:=h d;constructor;·intro hd;obtain⟨e1,e2⟩:=h1 hd;simp only[EP,e1,e2];exact⟨((hk _ d).1 hd).1,((hk _ d).1 hd).2⟩
 ·intro hd;obtain⟨e1,e2⟩:=h2 hd;simp only[EP,<-e1];by_cases he:(f d).2.e=0;·rw[e2 he];exact(hk _ _).2 he
  ·have a1:=((hk (f d).1 _).1 he).1;have a2:=((hk (f' d).1 _).1 he).2;rw[a1,a2];exact⟨rfl,λh=>absurd h he⟩
def ATU{α:Type}{f g:JrdDecoder->α×JrdDecoder} (he: ∀d,f d=g d) (hk: ∀d,d.e≠0->(f d).2=d):sim f g:=λd=>⟨λh=>⟨hk d h,by rw[<-he];exact hk d h⟩,λ_=>by rw[he];exact⟨rfl,λ_=>rfl⟩⟩
def N8{α:Type} (a:α):sim (λd=>(a,d)) (λd=>(a,d)):=ATU (λ_=>rfl) (λ_ _=>rfl)
def Km{d:JrdDecoder} (h:d.e≠0) (x:Int):KZ d x=d:=by
 have:(d.e==0)=false:=by simpa using h
 simp[KZ,this]
def Oq{d:JrdDecoder} (h:d.e=0) (x:Int):KZ d x=⟨x⟩:=by simp[KZ,h]
def RS (must:Bool) (g:ApiValue×Bool) (d:JrdDecoder):B8×JrdDecoder:=(if g.1.kind !=5 then []else g.1.text,if(if g.2 then g.1.kind !=5 else must)then KZ d 160 else d)
def Vv (kind:Int) (x:ApiValue):ApiValue:=if kind==7 then ApiValue.mk x.kind x.text (x.keys.take (min x.keys.length x.items.length)) (x.items.take (min x.keys.length x.items.length))else x
def G6 (g:ApiValue×Bool) (kind:Int) (d:JrdDecoder):ApiValue×JrdDecoder:=if g.2 then if g.1.kind !=kind then(zeroV,KZ d 160)else if 64<(Vv kind g.1).items.length then(zeroV,KZ d 161)else(Vv kind g.1,d)else(zeroV,d)
def Ps:List ApiValue->JrdDecoder->List B8×JrdDecoder |[],d=>([],d)|x::xs,d=>let r:=Ps xs (if x.kind !=5 then KZ d 160 else d);(x.text::r.1,r.2)
def AP8 (null:Bool) (k:B8) (x:ApiValue) (d:JrdDecoder):ApiProperty×JrdDecoder:=(if x.kind==1 then ApiProperty.mk k [] true else ApiProperty.mk k x.text false,if(x.kind !=5&&(x.kind !=1||!null))then KZ d 160 else d)
def MJ (null:Bool):List B8->List ApiValue->JrdDecoder->List ApiProperty×JrdDecoder |k::ks,x::xs,d=>let p:=AP8 null k x d;let r:=MJ null ks xs p.2;(p.1::r.1,r.2)|_,_,d=>([],d)
def U2 (g:ApiValue×Bool) (null:Bool):JrdDecoder->List ApiProperty×JrdDecoder:=EP (G6 g 7) λm=>MJ null m.keys m.items
def Ad9 (v:ApiValue):JrdDecoder->ApiLink×JrdDecoder:=EP (RS true (DV v AgT)) λa=>EP (RS false (DV v AXr)) λb=>EP (RS false (DV v AWw)) λc=>EP (RS false (DV v AIn)) λe=>EP (U2 (DV v ABN) false) λf=>EP (U2 (DV v Qu) true) λg=>λd=>(ApiLink.mk a b c e f g,d)
def Mk:List ApiValue->JrdDecoder->List ApiLink×JrdDecoder |[],d=>([],d)|x::xs,d=>if x.kind !=7 then Mk xs (KZ d 160)else let l:=Ad9 x d;let r:=Mk xs l.2;(l.1::r.1,r.2)
def Arb (v:ApiValue):ApiJRD×Int:=
  if v.kind !=7 then(ApiJRD.mk [] [] [] [],160)else
  let r:=(EP (RS false (DV v ADC)) λs=>EP (EP (G6 (DV v AWe) 6) λm=>Ps m.items) λa=>EP (U2 (DV v Qu) true) λp=>EP (EP (G6 (DV v XG) 6) λm=>Mk m.items) λl=>λd=>(ApiJRD.mk s a p l,d)) ⟨0⟩
  if r.2.e !=0 then(ApiJRD.mk [] [] [] [],r.2.e)else(r.1,0)
def AXN: ∀(ks:List B8) (xs:List ApiValue) (key:B8),(SL ks xs key).2=false->(SL ks xs key).1=zeroV
 |[],xs,key,_=>by cases xs<;>rfl
 |k::ks,[],key,_=>by simp[SL]
 | k::ks,x::xs,key,h=>by
  rw[SL]at h⊢;split;·rename_i e;rw[ah e]at h;cases h
  ·rename_i e;rw[ae e]at h;exact AXN ks xs key h
def AW6 (v:ApiValue) (key:B8) (h:(DV v key).2=false):(DV v key).1=zeroV:=by
 unfold DV at h⊢;split;·rename_i e;rw[ah e]at h;exact AXN _ _ _ h
 ·rfl
def Sk{g:ApiValue×Bool} (hg:g.2=false->g.1=zeroV):sim (λd=>Il d g) (RS false g):=by
 refine ATU (λd=>?_) (λd hd=>?_)
 ·unfold Il RS Qa;cases h:g.2;·rw[hg h];simp[zeroV]
  ·simp only[av];split<;>simp_all
 ·unfold Il Qa;split
  ·split;·exact Km hd _
   ·rfl
  ·rfl
def Amb{g:ApiValue×Bool} (hg:g.2=false->g.1=zeroV):sim (λd=>Il (if g.2 then d else KZ d 160) g) (RS true g):=by
 refine ATU (λd=>?_) (λd hd=>?_)
 ·unfold Il RS Qa;cases h:g.2;·rw[hg h];simp[zeroV]
  ·simp only[av];split<;>simp_all
 ·unfold Il Qa;split
  ·split;·exact Km hd _
   ·rfl
  ·exact Km hd _
def AFG: ∀xs:List ApiValue,sim (OG xs) (Ps xs)
 |[]=>N8 _
 | x::xs=>by
  have e:sim (λd=>Qa d x) (λd=>(x.text,if x.kind !=5 then KZ d 160 else d)):=by
   intro d;unfold Qa;cases h:(x.kind !=5);·simp
   ·refine⟨λhd=>?_,λhd=>?_⟩;·simp[Km hd]
    ·simp[Oq hd]
  exact Ii (k:=λa=>EP (OG xs) λr=>λd=>(a::r,d)) (k':=λa=>EP (Ps xs) λr=>λd=>(a::r,d)) e (λa=>Ii (AFG xs) (λr=>N8 _))
def Agz (null:Bool) (k:B8) (x:ApiValue):sim (λd=>(ApiProperty.mk k (X6 null d x).1 (X6 null d x).2.1,(X6 null d x).2.2)) (AP8 null k x):=by
 intro d;unfold X6 AP8 Qa;cases h1:(x.kind==1)
 ·cases h5:(x.kind !=5);·simp
  ·have h1':(x.kind !=1)=true:=by simp only[bne,h1,aL]
   refine⟨λhd=>?_,λhd=>?_⟩;·simp[Km hd,h1']
   ·simp[Oq hd,h1']
 ·have e1:x.kind=1:=by simpa using h1
  have h5:(x.kind !=5)=true:=by rw[e1];rfl
  have h1':(x.kind !=1)=false:=by rw[e1];rfl
  cases null
  ·refine⟨λhd=>?_,λhd=>?_⟩;·simp[Km hd,h5,h1']
   ·simp[Oq hd,h5,h1']
  ·simp[h1',h5]
def AC4 (null:Bool): ∀(ks:List B8) (xs:List ApiValue),sim (IJ null ks xs) (MJ null ks xs)
 | [],xs=>by
  have e1:IJ null [] xs=λd=>([],d):=by funext d;cases xs<;>rfl
  have e2:MJ null [] xs=λd=>([],d):=by funext d;cases xs<;>rfl
  rw[e1,e2];exact N8 _
 | k::ks,[]=>by
  have e1:IJ null (k::ks) []=λd=>([],d):=by funext d;simp[IJ]
  have e2:MJ null (k::ks) []=λd=>([],d):=by funext d;simp[MJ]
  rw[e1,e2];exact N8 _
 | k::ks,x::xs=>by
  have e1:IJ null (k::ks) (x::xs)=EP (λd=>(ApiProperty.mk k (X6 null d x).1 (X6 null d x).2.1,(X6 null d x).2.2)) (λa=>EP (IJ null ks xs) λr=>λd=>(a::r,d)):=by funext d;rw[IJ];rfl
  have e2:MJ null (k::ks) (x::xs)=EP (AP8 null k x) (λa=>EP (MJ null ks xs) λr=>λd=>(a::r,d)):=by funext d;rw[MJ];rfl
  rw[e1,e2];exact Ii (Agz null k x) (λa=>Ii (AC4 null ks xs) (λr=>N8 _))
def ADN (null:Bool): ∀(ks:List B8) (xs:List ApiValue) (d:JrdDecoder),IJ null (ks.take (min ks.length xs.length)) (xs.take (min ks.length xs.length)) d=IJ null ks xs d
 |[],xs,d=>by cases xs<;>simp[IJ]
 |k::ks,[],d=>by simp[IJ]
 | k::ks,x::xs,d=>by
  have e:min (k::ks).length (x::xs).length=min ks.length xs.length+1:=by simp only[ag];omega
  rw[e,bT,bT,IJ,IJ];simp only[ADN null ks xs]
def Zr{α:Type}{g:ApiValue×Bool}{kind:Int}{k k':ApiValue->JrdDecoder->α×JrdDecoder} (hk: ∀x,sim (k x) (k' x)) (hc: ∀x:ApiValue,x.kind=kind->k (Vv kind x)=k x):sim (EP (λd=>IU d g kind) k) (EP (G6 g kind) k'):=by
 have cnt:g.1.kind=kind->(Vv kind g.1).items.length=Su g.1:=by intro h;unfold Vv Su;rw[h];split<;>simp
 intro d;refine⟨λhd=>?_,λhd=>?_⟩
 ·have e1:(IU d g kind).2=d:=by
   have:(d.e !=0)=true:=by simpa using hd
   unfold IU;simp[this]
  have e2:(G6 g kind d).2=d:=by
   unfold G6;split
   ·split;·exact Km hd _
    ·split;·exact Km hd _
     ·rfl
   ·rfl
  simp only[EP,e1,e2];exact⟨((hk _ d).1 hd).1,((hk _ d).1 hd).2⟩
 ·have h0:(d.e !=0)=false:=by simp[hd]
  simp only[EP,IU,G6,h0,cx];cases h2:g.2;·simp only[aL,av,aj,aq];exact(hk zeroV d).2 hd
  ·simp only[aU,aj,aq,av];have bad: ∀x:Int,x≠0->(k zeroV (KZ d x)).2=(k' zeroV (KZ d x)).2/\((k zeroV (KZ d x)).2.e=0->(k zeroV (KZ d x)).1=(k' zeroV (KZ d x)).1):=by intro x hx;rw[Oq hd];have:=(hk zeroV ⟨x⟩).1 hx;rw[this.1,this.2];exact⟨rfl,λh=>absurd h hx⟩
   cases h3:(g.1.kind !=kind)
   ·have hkd:g.1.kind=kind:=by simpa using h3
    simp only[aj,aq,cnt hkd];split;·exact bad 161 fI
    ·have:=(hk (Vv kind g.1) d).2 hd;rw[hc g.1 hkd]at this;exact this
   ·simp only[av];exact bad 160 fI
def Zw (g:ApiValue×Bool) (null:Bool):sim (λd=>Rz d g null) (U2 g null):=Zr (k:=λm=>IJ null m.keys m.items) (λx=>AC4 null _ _) (λx hx=>by funext d;simp only[Vv,d9,av];exact ADN null _ _ d)
def Arv (x:ApiValue):Vv 6 x=x:=by simp[Vv]
def AQS (v:ApiValue):sim (λd=>Yj d v) (Ad9 v):=by have hg:=λkey=>AW6 v key;exact Ii (Amb (hg AgT)) λa=>Ii (Sk (hg AXr)) λb=>Ii (Sk (hg AWw)) λc=>Ii (Sk (hg AIn)) λe=>Ii (Zw (DV v ABN) false) λf=>Ii (Zw (DV v Qu) true) λg=>N8 _
def AgC{v:ApiValue} (h:(v.kind !=7)=true){d:JrdDecoder} (hd:d.e=0):(Yj d v).2=⟨160⟩:=by
 have hk:(v.kind==7)=false:=by simpa using h
 have hg: ∀key,DV v key=(zeroV,false):=λkey=>by simp[DV,hk]
 have:=Oq hd 160;simp[Yj,hg,Il,Rz,IU,IJ,zeroV,this]
theorem AFB: ∀xs:List ApiValue,sim (Kq xs) (Mk xs)
 |[]=>N8 _
 | x::xs=>by
  have ih:=AFB xs;cases h7:(x.kind !=7)
  ·have e2:Mk (x::xs)=EP (Ad9 x) (λa=>EP (Mk xs) λr=>λd=>(a::r,d)):=by funext d;rw[Mk,h7];rfl
   rw[e2];exact Ii (k:=λa=>EP (Kq xs) λr=>λd=>(a::r,d)) (AQS x) (λa=>Ii ih (λr=>N8 _))
  ·have e2:Mk (x::xs)=λd=>Mk xs (KZ d 160):=by funext d;rw[Mk,h7];rfl
   rw[e2];intro d;have e1:(Kq (x::xs) d).2=(Kq xs (Yj d x).2).2:=rfl;refine⟨λhd=>?_,λhd=>?_⟩<;>dsimp only;·rw[e1,((AQS x d).1 hd).1,Km hd];exact⟨((ih d).1 hd).1,((ih d).1 hd).2⟩
   ·have hne:(⟨160⟩:JrdDecoder).e≠0:=fI;rw[e1,AgC h7 hd,Oq hd,((ih ⟨160⟩).1 hne).1,((ih ⟨160⟩).1 hne).2];exact⟨rfl,λh=>absurd h hne⟩
def Aev (v:ApiValue):Arb v=Tk v:=by
 unfold Arb Tk;split;·rfl
 ·have hs:sim (EP (λd=>Il d (DV v ADC)) λs=>EP (EP (λd=>IU d (DV v AWe) 6) λm=>OG m.items) λa=>EP (λd=>Rz d (DV v Qu) true) λp=>EP (EP (λd=>IU d (DV v XG) 6) λm=>Kq m.items) λl=>λd=>(ApiJRD.mk s a p l,d)) (EP (RS false (DV v ADC)) λs=>EP (EP (G6 (DV v AWe) 6) λm=>Ps m.items) λa=>EP (U2 (DV v Qu) true) λp=>EP (EP (G6 (DV v XG) 6) λm=>Mk m.items) λl=>λd=>(ApiJRD.mk s a p l,d)):=Ii (Sk (AW6 v _)) λs=>Ii (Zr (λx=>AFG _) (λx _=>by rw[Arv])) λa=>Ii (Zw _ _) λp=>Ii (Zr (λx=>AFB _) (λx _=>by rw[Arv])) λl=>N8 _;obtain⟨h1,h2⟩:=(hs ⟨0⟩).2 rfl;unfold AMS;simp only[];generalize hr:(EP (RS false (DV v ADC)) λs=>EP (EP (G6 (DV v AWe) 6) λm=>Ps m.items) λa=>EP (U2 (DV v Qu) true) λp=>EP (EP (G6 (DV v XG) 6) λm=>Mk m.items) λl=>λd=>(ApiJRD.mk s a p l,d)) ⟨0⟩=r at h1 h2;simp only[EP]at h1 h2;rw[h1]at h2⊢;split;·rfl
  ·rename_i hn;have:r.2.e=0:=by simpa using hn
   rw[<-h2 this]
section
variable{N:Nat}
def rR (d:JrdDecoder):Ref16Reader:=⟨d.e⟩
def AN9 (v:ApiValue) (key:B8) (hb:v.keys.length<=900000):Ns N v key=some (DV v key):=AH5 v key fG
def Xm (d:JrdDecoder) (x:Int):Dq N (rR d) x=some (rR (KZ d x)):=by unfold Dq KZ rR;split<;>rfl
def AQV (d:JrdDecoder) (v:ApiValue) (key:B8) (must:Bool) (hv:okV v):Ec N (rR d) v key must=some ((RS must (DV v key) d).1,rR (RS must (DV v key) d).2):=by unfold Ec RS;rw[AN9 v key hv.keys,aa];simp only[AA,Xm,aa];cases (DV v key).2<;>cases ((DV v key).1.kind !=5)<;>cases must<;>rfl
def Y9 (d:JrdDecoder) (v:ApiValue) (key:B8) (kind:Int) (hv:okV v):Fy N (rR d) v key kind 64=some ((G6 (DV v key) kind d).1,rR (G6 (DV v key) kind d).2):=by
 unfold Fy G6;rw[AN9 v key hv.keys,aa];simp only[AA,Xm,aa];generalize DV v key=g;cases g.2;·rfl
 ·simp only[av];cases g.1.kind !=kind
  ·simp only[aj,aq];cases h7:(kind==7)
   ·have hc:Vv kind g.1=g.1:=by simp[Vv,h7]
    simp only[aj,aq,hc];have e:decide ((g.1.items.length:Int)>64)=decide (64<g.1.items.length):=by rw[dc];omega
    rw[e,Arj];simp only[au];split<;>rfl
   ·have hc:Vv kind g.1=ApiValue.mk g.1.kind g.1.text (g.1.keys.take (min g.1.keys.length g.1.items.length)) (g.1.items.take (min g.1.keys.length g.1.items.length)):=by simp[Vv,h7]
    have hm:(if(g.1.items.length:Int)<(g.1.keys.length:Int)then(g.1.items.length:Int)else(g.1.keys.length:Int))=((min g.1.keys.length g.1.items.length:Nat):Int):=by split<;>omega
    simp only[av,hm,show(0:Int)=((0:Nat):Int)from rfl,BA _ 0 (min g.1.keys.length g.1.items.length) (bP _) (Nat.min_le_left _ _),BA _ 0 (min g.1.keys.length g.1.items.length) (bP _) (ed _ _),aa,ba,bV,hc];have e:decide (((g.1.items.take (min g.1.keys.length g.1.items.length)).length:Int)>64)=decide (64<(g.1.items.take (min g.1.keys.length g.1.items.length)).length):=by rw[dc];omega
    rw[e];simp only[au];split<;>rfl
  ·simp only[av];rfl
def Sv (g:ApiValue×Bool) (kind:Int) (d:JrdDecoder):(G6 g kind d).1.items.length<=64:=by
 unfold G6;split
 ·split;·simp[zeroV]
  ·split;·simp[zeroV]
   ·dsimp only;omega
 ·simp[zeroV]
def Ape{x:ApiValue} (h:okV x) (kind:Int):okV (Vv kind x):=by
 unfold Vv;split
 ·refine .mk _ ?_ ?_ λy hy=>h.sub y (cU hy);·have:=h.keys;simp;omega
  ·have:=h.items;simp;omega
 ·exact h
def Ab1{g:ApiValue×Bool} (h:okV g.1) (kind:Int) (d:JrdDecoder):okV (G6 g kind d).1:=by
 unfold G6;split
 ·split;·exact Uo
  ·split;·exact Uo
   ·exact Ape h kind
 ·exact Uo
def APm (g:ApiValue×Bool) (d:JrdDecoder):(G6 g 7 d).1.items.length<=(G6 g 7 d).1.keys.length:=by
 unfold G6;split
 ·split;·simp[zeroV]
  ·split;·simp[zeroV]
   ·simp[Vv]
 ·simp[zeroV]
def AAU (k2:List B8×Ref16Reader->Option (List B8×Ref16Reader)): ∀(xs:List ApiValue) (out:List B8) (d:JrdDecoder),out.length+xs.length<=1000->Ct N k2 xs out (rR d)=k2 (out++(Ps xs d).1,rR (Ps xs d).2)
 |[],out,d,_=>by rw[Ct];simp[Ps]
 | x::xs,out,d,hb=>by
  simp only[ag]at hb;have ih:=λd'=>AAU k2 xs (out++[x.text]) d' fJ;rw[Ct,Ps];simp only[AA,Xm,aa,APw (show out.length+1<=1000000 by omega) (show(16:Nat)<=100000 by omega)];cases x.kind !=5;·simp only[aj,aq,ih];simp
  ·simp only[av,ih];simp
def Aaq (d:JrdDecoder) (v:ApiValue) (key:B8) (hv:okV v):JO N (rR d) v key=some (((EP (G6 (DV v key) 6) λm=>Ps m.items) d).1,rR ((EP (G6 (DV v key) 6) λm=>Ps m.items) d).2):=by have hl:=Sv (DV v key) 6 d;unfold JO;rw[AA,Y9 d v key 6 hv,aa,BV (by simp only[];omega),AAU _ _ _ _ fJ];rfl
def AAk (null:Bool) (y1:ApiValue×Ref16Reader) (k4:List ApiProperty×Ref16Reader->Option (List ApiProperty×Ref16Reader)): ∀(xs:List ApiValue) (ks pre:List B8) (out:List ApiProperty) (d:JrdDecoder),y1.1.keys=pre++ks->xs.length<=ks.length->out.length+xs.length<=1000->Bd N null y1 k4 xs (pre.length:Int) out (rR d)=k4 (out++(MJ null ks xs d).1,rR (MJ null ks xs d).2)
 | [],ks,pre,out,d,_,_,_=>by rw[Bd];cases ks<;>simp[MJ]
 |x::xs,[],pre,out,d,_,h,_=>by simp at h
 | x::xs,y::ks,pre,out,d,hl,hx,hb=>by
  simp only[ag]at hx hb;have ih:=λp:ApiProperty=>λd'=>AAk null y1 k4 xs ks (pre++[y]) (out++[p]) d' (by rw[hl];simp) fG fJ;rw[Bd];simp only[AA,Xm,aa,ADL hl,SF pre y,APw (show out.length+1<=1000000 by omega) (show(40:Nat)<=100000 by omega),ih];rw[MJ];simp only[AP8];cases h5:(x.kind !=5);·cases h1:(x.kind==1)<;>simp
  ·cases h1:(x.kind==1)
   ·have h1':(x.kind !=1)=true:=by simp only[bne,h1,aL]
    simp[h1']
   ·have h1':(x.kind !=1)=false:=by simp only[bne,h1,aU]
    cases null<;>simp[h1']
def AE5 (d:JrdDecoder) (v:ApiValue) (key:B8) (null:Bool) (hv:okV v):Dl N (rR d) v key null=some ((U2 (DV v key) null d).1,rR (U2 (DV v key) null d).2):=by have hl:=Sv (DV v key) 7 d;have hk:=APm (DV v key) d;unfold Dl;rw[Y9 d v key 7 hv,aa,AA,BV (by simp only[];omega)];have:=AAk (N:=N) null ((G6 (DV v key) 7 d).1,rR (G6 (DV v key) 7 d).2) (λj3=>some (j3.1,j3.2)) (G6 (DV v key) 7 d).1.items (G6 (DV v key) 7 d).1.keys [] [] (G6 (DV v key) 7 d).2 rfl hk fJ;simp only[ap,Int.ofNat_zero,aT]at this;exact this
def AAi (k13:List ApiLink×Ref16Reader->Option (ApiJRD×Int)): ∀(xs:List ApiValue) (out:List ApiLink) (d:JrdDecoder),out.length+xs.length<=1000->(∀x,x∈xs->okV x)->Fb N k13 xs out (rR d)=k13 (out++(Mk xs d).1,rR (Mk xs d).2)
 |[],out,d,_,_=>by rw[Fb];simp[Mk]
 | x::xs,out,d,hb,hw=>by
  simp only[ag]at hb;have ih:=λo d' h=>AAi k13 xs o d' h (λy hy=>hw y (by simp[hy]));have hx:=hw x fH;rw[Fb];simp only[AA,Xm,AQV _ x _ _ hx,AE5 _ x _ _ hx,aa,APw (show out.length+1<=1000000 by omega) (show(112:Nat)<=100000 by omega)];rw[Mk];cases h7:(x.kind !=7);·simp only[aj,aq];refine(ih _ _ fJ).trans ?_;simp only[aF,cL];rfl
  ·simp only[av];exact ih _ _ fG
def Alm (v:ApiValue) (hv:okV v):OX N v=some (Tk v):=by
 rw[<-Aev];unfold OX Arb;split;·rfl
 ·rw[show Ref16Reader.mk 0=rR ⟨0⟩from rfl];simp only[AA,AQV _ v _ _ hv,Aaq _ v _ hv,AE5 _ v _ _ hv,Y9 _ v _ _ hv,aa];rw[BV (by exact bA (Sv ..) fG),AAi _ _ _ _ (by simpa using bA (Sv ..) fG) (λx hx=>(Ab1 (AHn hv _) _ _).sub x hx)];simp only[ADC,AWe,Qu,XG,aT];exact(apply_ite some ..).symm
end
end Go.VM
namespace Go.VM
section
variable{N:Nat}
def Rp (d:MadeDice):Prop:= ∀a,a∈d.l->0<=a/\a<=255
def YU{d:MadeDice} (hd:Rp d) (hl:d.l.length<=1000){n:Nat} (h1:1<=n) (h2:n<=1000):Ok (KS N d (n:Int)) λr=>(0<=r.1/\r.1<n)/\Rp r.2/\r.2.l.length<=1000:=by
 unfold KS;have hz:Ok (some ((0:Int),d)) λr=>(0<=r.1/\r.1<n)/\Rp r.2/\r.2.l.length<=1000:=.ret ⟨⟨bu _,by dsimp only;omega⟩,hd,hl⟩;dsimp only[AA];cases hq:d.l with
 |nil=>exact hz
 | cons a t=>
  rw[hq]at hl;simp only[ag]at hl;obtain⟨a1,a2⟩:=hd a (by rw[hq];simp);rw[ae fJ];refine Ok.ite (λ_=>hz) λ_=>?_;have e1:sub (a::t) 1 ((a::t).length:Int)=some t:=by rw[show(1:Int)=((1:Nat):Int)from rfl,BA _ 1 _ fH (aw _)];simp
  rw[show idx (a::t) 0=some a from rfl,aa,e1,aa,AO fG];refine .grd fG (.ret ⟨⟨?_,?_⟩,λb hb=>hd b (by rw[hq];simp[hb]),by dsimp only;omega⟩);·exact Int.tmod_nonneg _ a1
  ·exact Int.tmod_lt_of_pos _ fG
def UV{d:MadeDice} (hd:Rp d) (hl:d.l.length<=1000){l:List B8} (h1:1<=l.length) (h2:l.length<=1000) (h3: ∀s,s∈l->s.length<=30):Ok (Es N d l) λr=>r.1.length<=30/\Rp r.2/\r.2.l.length<=1000:=by unfold Es;refine .bind (YU hd hl h1 h2) λy ⟨⟨y1,y2⟩,y3,y4⟩=>?_;refine .bind (Ok.idx y1 y2) λx AR=>.ret ⟨h3 x (List.mem_of_getElem? AR),y3,y4⟩
def okS{α:Type}{n:Nat}{x:Option α}{P:α->Prop} (h:n<=1000000) (AR:Ok x P):Ok (grd (AL n) x) P:=by rw[BV fG];exact AR
def Afi{d:MadeDice} (hd:Rp d) (hl:d.l.length<=1000):Ok (QN N d) λr=>r.1.length<=1000/\Rp r.2/\r.2.l.length<=1000:=by
 unfold QN U6;refine .bind (Q:=λr=>r.1.length<=30/\Rp r.2/\r.2.l.length<=1000) ?_ λy ⟨y1,y2,y3⟩=>?_;·refine .letL (.bind (UV hd hl fI fI fI) λr hr=>.ret hr)
 refine .bind (YU y2 y3 (n:=6) fI fI) λz ⟨_,z1,z2⟩=>?_;refine .meet (λ_=>True) (λj _=>?_) λk' hk=>.ite (λ_=>hk _ trivial) λ_=>hk _ trivial;refine .ite (λ_=>?_) λ_=>.ite (λ_=>?_) λ_=>.ite (λ_=>?_) λ_=>?_;·refine .letL (.bind (UV z1 z2 fI fI fI) λa ⟨a1,a2,a3⟩=>?_);refine .letL (.bind (UV a2 a3 fI fI fI) λb ⟨b1,b2,b3⟩=>?_);refine okS fG (okS fJ ?_);refine .letL (.bind (UV b2 b3 fI fI fI) λc ⟨c1,c2,c3⟩=>?_);exact okS fJ (.ret ⟨fJ,c2,c3⟩)
 ·refine .letL (.bind (UV z1 z2 fI fI fI) λa ⟨a1,a2,a3⟩=>?_);refine okS fJ (okS fJ ?_);refine .letL (.bind (UV a2 a3 fI fI fI) λc ⟨c1,c2,c3⟩=>?_);exact okS fJ (.ret ⟨fJ,c2,c3⟩)
 ·refine okS fJ ?_;refine .letL (.bind (UV z1 z2 fI fI fI) λa ⟨a1,a2,a3⟩=>?_);exact okS fJ (.ret ⟨fJ,a2,a3⟩)
 ·refine .meet (λj=>j.length<=30) (λj hj=>?_) λk' hk=>.ite (λ_=>hk _ fI) λ_=>hk _ y1;refine okS fJ ?_;refine .letL (.bind (UV z1 z2 fI fI fI) λa ⟨a1,a2,a3⟩=>?_);exact okS fJ (.ret ⟨fJ,a2,a3⟩)
def ALH{d:MadeDice} (hd:Rp d) (hl:d.l.length<=1000):Ok (QN N d) λr=>r.1.length<=1000:=(Afi hd hl).mono λ_ h=>h.1
end
end Go.VM
namespace Go.VM
section
variable{N:Nat}
def eqI (a b:ApiID):Bool:=a.kind==b.kind&&(a.text==b.text&&(a.host==b.host&&a.port==b.port))
def Ahj (a:ApiID):eqI a a=true:=by unfold eqI;simp
def Ad8{l:List Int} (h: ∀a,a∈l->0<=a/\a<=255) (hN:20000<=N):Ok (KI N l) λx=>x.text.length<=100000:=by
 unfold KI;refine .bind (Q:=λd=>Rp d/\d.l.length<=1000) ?_ λd ⟨d1,d2⟩=>.bind (ALH d1 d2) λt ht=>?_
 ·unfold Uw;have hm: ∃n:Nat,(if 200<(l.length:Int)then 200 else(l.length:Int))=(n:Int)/\n<=l.length/\n<=200:=by
   by_cases h2:200<(l.length:Int);·exact⟨200,by rw[ah h2];rfl,fG,aw _⟩
   ·exact⟨l.length,by rw[ae h2],aw _,fG⟩
  obtain⟨n,e,n1,n2⟩:=hm;rw[e,show(0:Int)=((0:Nat):Int)from rfl,BA l 0 n (bP _) n1,aa];refine .ret ⟨λa ha=>h a ?_,?_⟩;·simp only[ba,bV]at ha;exact cU ha
  ·simp;omega
 ·rw[AI0 _ fG hN,aa];exact .ret (Asn _).2.2
end
end Go.VM
namespace Go.VM
section
variable{N:Nat}
def UK (N:Nat) (a:ApiID) (acc:List ApiID) (t:B8):List ApiID:=if((Ho N t).2==0)=false then acc else if eqI (Ho N t).1 a=true then acc else if(acc.any λx=>eqI (Ho N t).1 x)=true then acc else if acc.length<64 then acc++[(Ho N t).1]else acc
def AZL{a:ApiID}{acc:List ApiID}{t:B8} (h:acc.length<=64):(UK N a acc t).length<=64:=by
 unfold UK;split;·exact h
 split;·exact h
 split;·exact h
 split;·rw[an,ag,ap];omega
 ·exact h
def ADW{a:ApiID}: ∀(xs:List B8) (acc:List ApiID),acc.length<=64->(xs.foldl (UK N a) acc).length<=64 |[],_,h=>h|x::xs,acc,h=>ADW xs _ (AZL h)
def O7{n b:Nat} (h:n<=1000000) (hb:b<=1000):BR n b:=by unfold BR;have:n * b<=1000000 * 1000:=eJ h hb;omega
def AFz (y:ApiID): ∀(xs:List ApiID) (i:Int),0<=i->∃r,BM N y (λ_=>some (-1)) xs i=some r/\decide (r>=0)=xs.any λx=>eqI y x
 |[],i,_=>⟨-1,by rw[BM],rfl⟩
 | x::xs,i,hi=>by
  rw[BM,bK];change∃r,(if eqI y x=true then _ else _)=some r/\_;cases h:eqI y x;·obtain⟨r,h1,h2⟩:=AFz y xs (i+1) fG;exact⟨r,by rw[ae fI];exact h1,by rw[h2];rfl⟩
  ·exact⟨i,by rw[ah rfl],by simpa using hi⟩
def AYX (xs:List ApiID) (y:ApiID) (hb:xs.length<=1000000):Dz N xs y=some (xs.any λx=>eqI y x):=by obtain⟨r,h1,h2⟩:=AFz (N:=N) y xs 0 (bu _);unfold Dz Gd;dsimp only[AA];rw[BV fG,h1,aa,h2]
def AoO (hN:20000<=N) (a:ApiID) (k:List ApiID->Option (List ApiID)): ∀(xs:List B8) (s:List ApiID),(∀t,t∈xs->t.length<=1000000)->s.length<=64->Jc N a 64 k xs s=k (xs.foldl (UK N a) s)
 |[],s,_,_=>by rw[Jc];rfl
 | t::xs,s,h,hs=>by
  have ih:=λs' hs'=>AoO hN a k xs s' (λy hy=>h y (by simp[hy])) hs';rw[Jc,ez];dsimp only[AA];rw[Z5 _ (h t fH) hN,aa,AYX _ _ fG,aa];simp only[AJ (O7 (show s.length+1<=1000000 by omega) (show 48<=1000 by omega))];change (if((Ho N t).2==0)=true then(if eqI (Ho N t).1 a=true then _ else _)else _)=_;unfold UK;cases ((Ho N t).2==0);·exact ih s hs
  rw[ah rfl,ae (show¬(true=false) by decide)];cases eqI (Ho N t).1 a;rotate_left;·exact ih s hs
  rw[ae fI,ae (show¬(false=true) by decide)];cases (s.any λx=>eqI (Ho N t).1 x);rotate_left;·exact ih s hs
  rw[ae fI,ae (show¬(false=true) by decide)];by_cases h64:s.length<64;·rw[aA (show(s.length:Int)<64 by omega),ah rfl,ah h64];exact ih _ (by rw[an,ag,ap];omega)
  ·rw[aO (show¬(s.length:Int)<64 by omega),ae fI,ae h64];exact ih s hs
def Aof (hN:20000<=N) (a:ApiID) (k:List ApiID->Option (List ApiID)): ∀(xss:List (List B8)) (s:List ApiID),(∀xs,xs∈xss->xs.length<=1000000/\∀t,t∈xs->t.length<=1000000)->s.length<=64->Jg N a 64 k xss s=k (xss.foldl (λs xs=>xs.foldl (UK N a) s) s) |[],s,_,_=>by rw[Jg];rfl| xs::xss,s,h,hs=>by obtain⟨h1,h2⟩:=h xs fH;rw[Jg];dsimp only[AA];rw[BV fG,AoO hN a _ xs s h2 hs,ez];exact Aof hN a k xss _ (λy hy=>h y (by simp[hy])) (ADW xs s hs)
def AqW (hN:20000<=N) (a:ApiID) (xss:List (List B8)) (hl:xss.length<=1000000) (h: ∀xs,xs∈xss->xs.length<=1000000/\∀t,t∈xs->t.length<=1000000):SE N a 64 xss=some (xss.foldl (λs xs=>xs.foldl (UK N a) s) []):=by unfold SE;dsimp only[AA];rw[BV fG,Aof hN a _ xss [] h fH]
def Afe (y:ApiID×Int) (k:Bool->Option (List ApiID)): ∀(xs:List ApiID) (b:Bool),E5 N y k xs b=k (b||xs.any λx=>eqI y.1 x) |[],b=>by rw[E5];simp| x::xs,b=>by rw[E5,bK];dsimp only[AA];rw[Afe y k xs,Afe y k xs];change (if b=true then _ else k (eqI y.1 x||_))=_;cases b<;>rfl
theorem AoS (hN:20000<=N) (a:ApiID) (k:List ApiID->Option (List ApiID)): ∀(xs:List B8) (s:List ApiID),(∀t,t∈xs->t.length<=1000000)->s.length<=64->FB N a k xs s=k (xs.foldl (UK N a) s)
 |[],s,_,_=>by rw[FB];rfl
 | t::xs,s,h,hs=>by
  have ih:=λs' hs'=>AoS hN a k xs s' (λy hy=>h y (by simp[hy])) hs';rw[FB,ez];dsimp only[AA];rw[AI0 _ (h t fH) hN,aa];simp only[BV (show s.length<=4611686018427387904 by omega),Afe,AJ (O7 (show s.length+1<=1000000 by omega) (show 48<=1000 by omega))];have e:((Ho N t).2 !=0)=!((Ho N t).2==0):=rfl;rw[e];change (if(!(Ho N t).2==0)=true then _ else(if(eqI (Ho N t).1 a||s.any λx=>eqI (Ho N t).1 x)=true then _ else _))=_;unfold UK;cases ((Ho N t).2==0);·exact ih s hs
  rw[ae fI,ae (show¬(true=false) by decide)];cases eqI (Ho N t).1 a;rotate_left;·exact ih s hs
  rw[be,ae (show¬(false=true) by decide)];cases (s.any λx=>eqI (Ho N t).1 x);rotate_left;·exact ih s hs
  rw[ae fI,ae (show¬(false=true) by decide)];by_cases h64:s.length<64;·rw[aA (show(s.length:Int)<64 by omega),ah rfl,ah h64];exact ih _ (by rw[an,ag,ap];omega)
  ·rw[aO (show¬(s.length:Int)<64 by omega),ae fI,ae h64];exact ih s hs
def Akx (hN:20000<=N) (a:ApiID) (xs:List B8) (hl:xs.length<=1000000) (h: ∀t,t∈xs->t.length<=1000000):LD N xs a=some (xs.foldl (UK N a) []):=by unfold LD;dsimp only[AA];rw[BV fG,AoS hN a _ xs [] h fH]
def AJL (rel:B8) (l:ApiLink):Bool:=l.rel==rel
def okK (j:ApiJRD):Prop:=j.subject.length<=300/\j.aliases.length<=70/\j.links.length<=70/\(∀a,a∈j.aliases->a.length<=300)/\ ∀l,l∈j.links->l.href.length<=900/\l.titles.length<=70/\l.properties.length<=70
def AOl (j:ApiJRD):Prop:=j.subject.length<=200000/\j.aliases.length<=70/\j.links.length<=70/\(∀a,a∈j.aliases->a.length<=200000)/\ ∀l,l∈j.links->l.href.length<=200000/\l.titles.length<=70/\l.properties.length<=70
def okK.b{j:ApiJRD} (h:okK j):AOl j:=⟨by have:=h.1;omega,h.2.1,h.2.2.1,λa ha=>by have:=h.2.2.2.1 a ha;omega,λl hl=>by have:=h.2.2.2.2 l hl;omega⟩
def AB2 (rel:B8) (k:List ApiLink->Option (List ApiLink)): ∀(xs s:List ApiLink),(∀l,l∈xs->l.titles.length<=70/\l.properties.length<=70)->s.length+xs.length<=1000->Ir N rel k xs s=k (s++xs.filter (AJL rel))
 |[],s,_,_=>by rw[Ir];simp
 | x::xs,s,h,hb=>by
  obtain⟨h1,h2⟩:=h x fH;rw[ag]at hb;have ih:=λs' hs'=>AB2 rel k xs s' (λy hy=>h y (by simp[hy])) hs';rw[Ir,de];dsimp only[AA];rw[AJ (O7 fJ fG),AJ (O7 fJ fG),AJ (O7 fG fG)];change (if AJL rel x=true then _ else _)=_;cases AJL rel x;·exact ih s fG
  ·rw[ah rfl,ah rfl,ih _ (by rw[an,ag,ap];omega),aF];rfl
def ABi (rel:B8) (k:List ApiLink->Option (List ApiLink)): ∀(xs s:List ApiLink),s.length+xs.length<=1000->GJ N rel k xs s=k (s++xs.filter (AJL rel))
 |[],s,_=>by rw[GJ];simp
 | x::xs,s,hb=>by
  rw[ag]at hb;have ih:=λs' hs'=>ABi rel k xs s' hs';rw[GJ,de];dsimp only[AA];rw[AJ (O7 fG fG)];change (if AJL rel x=true then _ else _)=_;cases AJL rel x;·exact ih s fG
  ·rw[ah rfl,ah rfl,ih _ (by rw[an,ag,ap];omega),aF];rfl
def AoM (k:List B8->Option (List ApiID)): ∀(xs:List ApiLink) (s:List B8),s.length+xs.length<=1000->Fe N k xs s=k (s++xs.map (·.href)) |[],s,_=>by rw[Fe];simp| x::xs,s,hb=>by rw[ag]at hb;rw[Fe,AJ (O7 fG fG),AoM k xs _ (by rw[an,ag,ap];omega),aF];rfl
def Ao2 (k:List B8->Option (List ApiID)): ∀(xs:List ApiLink) (s:List B8),s.length+xs.length<=1000->Gc N k xs s=k (s++xs.map (·.href)) |[],s,_=>by rw[Gc];simp| x::xs,s,hb=>by rw[ag]at hb;rw[Gc,AJ (O7 fG fG),Ao2 k xs _ (by rw[an,ag,ap];omega),aF];rfl
def ARg:B8:=[115,101,108,102]
def AAF (j:ApiJRD):List B8:=(j.links.filter (AJL ARg)).map (·.href)
def ARI (N:Nat) (j:ApiJRD) (a:ApiID):List ApiID:=((AAF j++[j.subject])++j.aliases).foldl (UK N a) []
def AX5{j:ApiJRD} (h:AOl j):(j.links.filter (AJL ARg)).length<=70/\(AAF j).length<=70/\∀t,t∈AAF j->t.length<=200000:=by obtain⟨h1,h2,h3,h4,h5⟩:=h;have hf:=fo (AJL ARg) j.links;refine⟨fG,by unfold AAF;rw[co];omega,λt ht=>?_⟩;obtain⟨l,hl,rfl⟩:=bz.1 ht;exact(h5 l (List.mem_filter.1 hl).1).1
def Akv (hN:20000<=N){j:ApiJRD} (h:AOl j) (a:ApiID):OP N j a=some (ARI N j a):=by
 obtain⟨b1,b2,b3⟩:=AX5 h;obtain⟨h1,h2,h3,h4,h5⟩:=h;unfold OP Xl ARI;dsimp only[AA];change Option.bind (grd _ (Ir N ARg _ j.links [])) _=_;rw[BV fG,AB2 _ _ _ _ (λl hl=>(h5 l hl).2) fJ,aa,aT,BV fG,AoM _ _ _ fJ,aT];change Option.bind (SE N a 64 [AAF j,[j.subject],j.aliases]) _=_;rw[AqW hN a _ fH ?_,aa,List.foldl_append,List.foldl_append];·rfl
 ·intro xs hxs;simp only[aI,db,ek]at hxs;rcases hxs with rfl|rfl|rfl;·exact⟨fG,λt ht=>by have:=b3 t ht;omega⟩
  ·exact⟨fH,λt ht=>by rcases bm.1 ht with rfl;omega⟩
  ·exact⟨fG,λt ht=>by have:=h4 t ht;omega⟩
def Al1 (hN:20000<=N){j:ApiJRD} (h:AOl j) (a:ApiID):PE N j a=some (ARI N j a):=by
 obtain⟨b1,b2,b3⟩:=AX5 h;obtain⟨h1,h2,h3,h4,h5⟩:=h;unfold PE Sm ARI;dsimp only[AA];change Option.bind (grd _ (GJ N ARg _ j.links [])) _=_;rw[BV fG,ABi _ _ _ _ fJ,aa,aT,BV fG,Ao2 _ _ _ fJ,aT];change grd (BR ((AAF j).length+1) 16) (grd (BR ((AAF j++[j.subject]).length+j.aliases.length) 16) (Option.bind (LD N ((AAF j++[j.subject])++j.aliases) a) _))=_;rw[AJ (O7 fG fG),AJ (O7 (by rw[an,ag,ap];omega) fG),Akx hN a _ (by simp only[an,ag,ap];omega) ?_,aa];intro t ht;simp only[aY,bm]at ht;rcases ht with(ht|ht)|ht;·have:=b3 t ht;omega
 ·subst ht;omega
 ·have:=h4 t ht;omega
def AFT (l:List ApiID) (k:Unit->Option Bool): ∀(xs pre:List ApiID),l=pre++xs->ED N l k xs (pre.length:Int)=k ()
 |[],pre,_=>by rw[ED]
 | x::xs,pre,h=>by
  have e:idx l (pre.length:Int)=some x:=by rw[Ji,h];simp
  rw[ED,e,aa];change (if eqI x x=true then _ else _)=_;rw[ah (Ahj x)];have:=AFT l k xs (pre++[x]) (by rw[h];simp);rw[an,ag,ap]at this;exact this
def AUB (l:List ApiID) (hb:l.length<=1000000):K9 N l l=some true:=by unfold K9;dsimp only[AA];rw[ae fH,BV fG];exact AFT l _ l [] rfl
end
end Go.VM
namespace Go.VM
section
variable{N:Nat}
def ABq:List B8:=[[106,114,100,43,106,115,111,110],[106,115,111,110]]
def Ara{m:ApiMedia} (h:okM 10000000 m):PN N m=some (AV0 m ARk ABq):=by unfold PN letL Ve;dsimp only[AA];rw[BV fH,show([([97,112,112,108,105,99,97,116,105,111,110,47,106,114,100,43,106,115,111,110]:B8),([97,112,112,108,105,99,97,116,105,111,110,47,106,115,111,110]:B8)]:List B8)=ABq.map λs=>(ARk++[47])++s from rfl,Arx h fI];rfl
def ApU{m:ApiMedia} (h:okM 10000000 m):PX N m=some (AV0 m ARk ABq):=by
 unfold PX AV0 ABq ARk;rw[Akr h];simp only[bh,dZ,aa];cases m.type_==([97,112,112,108,105,99,97,116,105,111,110]:B8);·simp
 ·rw[ah rfl];cases m.sub==([106,114,100,43,106,115,111,110]:B8);·cases m.sub==([106,115,111,110]:B8)<;>simp
  ·simp
def okT.v{v:ApiValue}:okT v->okV v|.mk _ _ k i s=>.mk _ k i λx hx=>(s x hx).v
def AFP{d:JrdDecoder}{v:ApiValue} (h:okT v):(Qa d v).1.length<=100000:=by
 unfold Qa;split;·simp
 ·exact h.text
def ADq{d:JrdDecoder}{g:ApiValue×Bool} (h:okT g.1):(Il d g).1.length<=100000:=by
 unfold Il;split;·exact AFP h
 ·simp
def AgS{g:ApiValue×Bool} (h:okT g.1) (d:JrdDecoder) (kind:Int):okT (IU d g kind).1:=by
 rcases AC6 d g kind with e|e<;>rw[e];·exact h
 ·exact Ut
def AXf: ∀(xs:List ApiValue) (d:JrdDecoder),(∀x,x∈xs->okT x)->∀t,t∈(OG xs d).1->t.length<=100000
 |[],d,_,t,h=>by simp[OG]at h
 | x::xs,d,hx,t,h=>by
  rw[OG]at h;rcases aI.1 h with rfl|h;·exact AFP (hx x (.head _))
  ·exact AXf xs _ (λy hy=>hx y (.tail _ hy)) t h
def AX1: ∀(xs:List ApiValue) (d:JrdDecoder),(∀x,x∈xs->okT x)->∀l,l∈(Kq xs d).1->l.href.length<=100000/\l.template.length<=100000
 |[],d,_,t,h=>by simp[Kq]at h
 | x::xs,d,hx,t,h=>by
  rw[Kq]at h;rcases aI.1 h with rfl|h;·unfold Yj;exact⟨ADq (YS (hx x (.head _)) _),ADq (YS (hx x (.head _)) _)⟩
  ·exact AX1 xs _ (λy hy=>hx y (.tail _ hy)) t h
def Apv{v:ApiValue} (h:okT v):AOl (Tk v).1/\∀l,l∈(Tk v).1.links->l.template.length<=100000:=by
 obtain⟨f1,_,f3,f4⟩:=AhZ v;have key:(Tk v).1.subject.length<=100000/\(∀a,a∈(Tk v).1.aliases->a.length<=100000)/\∀l,l∈(Tk v).1.links->l.href.length<=100000/\l.template.length<=100000:=by
  unfold Tk;split;·simp
  ·unfold AMS;dsimp only;split;·simp
   ·exact⟨ADq (YS h _),AXf _ _ (AgS (YS h _) _ _).sub,AX1 _ _ (AgS (YS h _) _ _).sub⟩
 obtain⟨k1,k2,k3⟩:=key;exact⟨⟨fG,fG,fG,λa ha=>by have:=k2 a ha;omega,λl hl=>by have:=k3 l hl;have:=f4 l hl;omega⟩,λl hl=>(k3 l hl).2⟩
def AWT:ApiJRD:=⟨[],[],[],[]⟩
def AIc:AOl AWT/\ ∀l,l∈AWT.links->l.template.length<=100000:=by simp[AOl,AWT]
def AbE (r:ApiResponse) (hr:hdB r.head) (hb:r.body.length<=10000) (hN:3000000<=N) (hN2:N<=1099511627776):∃j e,Je N r=some (j,e)/\OQ N r=some (j,e)/\AOl j/\∀l,l∈j.links->l.template.length<=100000:=by
 have hg:=ACE hr ctB;obtain⟨m,e',m1,m2,m3⟩:=AUh (N:=N) (l:=(Ws r.head ctB).1) fG fG;have m4:okM 10000000 m:=⟨m3.1,by have:=m3.2.1;omega,λf hf=>by have:=m3.2.2.1 f hf;omega,by have:=m3.2.2.2;omega,by have:=m3.2.2.2;omega⟩;obtain⟨v,e1,e2⟩:=AUG (N:=N) (l:=r.body) fG hN2;obtain⟨v',e1',hok,_⟩:=AMT (N:=N) (l:=r.body) hb fG;rw[e1]at e1';cases e1';unfold Je OQ;rw[show([99,111,110,116,101,110,116,45,116,121,112,101]:B8)=ctB from rfl,AMK hr ctB fI,Tz hr ctB fI,aa,aa,m1,m2,aa,aa];dsimp only[AA];cases (Ws r.head ctB).2;·exact⟨AWT,200,rfl,rfl,AIc⟩
 ·rw [ah rfl,ah rfl];cases h4:e' !=0
  ·simp only[av,aq,aj,aU,aL,aa,Ara m4,ApU m4];cases AV0 m ARk ABq;·exact⟨AWT,200,rfl,rfl,AIc⟩
   ·simp only[av,aq,aj,aU,aL,aa];rw[e1,e2,aa,aa];cases h5:v.2.2 !=0;·simp only[aj,aq];rw[ArZ _ hok.v,Alm _ hok.v];exact⟨(Tk v.1).1,(Tk v.1).2,rfl,rfl,Apv hok⟩
    ·exact⟨AWT,v.2.2,rfl,rfl,AIc⟩
  ·exact⟨AWT,200,rfl,rfl,AIc⟩
def TI (N:Nat) (t s:B8):Bool:=(NG N s t).getD false
def Ai9 (s t:B8) (hs:s.length<=1000000) (ht:t.length<=1000000) (hN:20000<=N):NG N s t=some (TI N t s):=by obtain⟨r,h1,h2⟩:=AAM (N:=N) s t hs ht hN;unfold TI;rw[h1];rfl
def Afq (s t:B8) (hs:s.length<=1000000) (ht:t.length<=1000000) (hN:20000<=N):NF N s t=some (TI N t s):=by obtain⟨r,h1,h2⟩:=AAM (N:=N) s t hs ht hN;unfold TI;rw[h1,h2];rfl
def AtH (hN:20000<=N) (x:ApiID) (hx:x.text.length<=1000000): ∀(xs:List B8) (i:Nat),(∀a,a∈xs->a.length<=1000000)->∃j:Int,AY N (λj1=>some (-1,j1)) xs (i:Int) x=some (j,x)/\decide (j>=0)=xs.any (TI N x.text)
 |[],i,_=>⟨-1,rfl,rfl⟩
 | s::xs,i,h=>by
  rw[AY];unfold LG;rw[Ai9 s x.text (h s (.head _)) hx hN];simp only[aa,bK];cases TI N x.text s;·obtain⟨j,h1,h2⟩:=AtH hN x hx xs (i+1) λa ha=>h a (.tail _ ha);exact⟨j,h1,by rw[h2];rfl⟩
  ·exact⟨(i:Int),rfl,fH⟩
def Ae2 (hN:20000<=N) (x:ApiID) (hx:x.text.length<=1000000) (k:Bool->Option (ApiFinding×Int)): ∀(xs:List B8) (b:Bool),(∀a,a∈xs->a.length<=1000000)->H6 N x k xs b=k (b||xs.any (TI N x.text)) |[],b,_=>by rw[H6];simp| s::xs,b,h=>by have ih:=λb=>Ae2 hN x hx k xs b λa ha=>h a (.tail _ ha);rw[H6,Afq s x.text (h s (.head _)) hx hN];dsimp only[AA];simp only[aa,ih,bK];cases b<;>simp
def RJ:ApiFinding:=⟨⟨0,[],[],0⟩,[],0,⟨false,0⟩,[]⟩
def AhD (j:ApiJRD) (a:ApiID):(ARI N j a).length<=64:=by unfold ARI;exact ADW _ _ fH
def ATT (r:ApiResponse) (hr:hdB r.head) (hb:r.body.length<=10000) (x:ApiID) (hx:x.text.length<=1000000) (hN:3000000<=N) (hN2:N<=1099511627776):∃f e,PZ N r x=some (f,e)/\Qy N r x=some (f,e)/\f.names.length<=64/\f.trace=[]/\(e=0->f.subject=x)/\(e≠0->f=RJ):=by
 obtain⟨j,e,d1,d2,d3,_⟩:=AbE r hr hb hN hN2;obtain⟨q,f1,f2⟩:=AlM (N:=N) hr hN;have z:RJ.names.length<=64/\RJ.trace=[]:=by simp[RJ]
 obtain⟨b1,b2,b3,b4,b5⟩:=id d3;unfold PZ Qy O5 O8;dsimp only[AA];cases h1:r.head.status==200
 ·have bad: ∀e:Int,e≠0->∃f e',(some (RJ,e)=some (f,e'))/\(some (RJ,e)=some (f,e'))/\f.names.length<=64/\f.trace=[]/\(e'=0->f.subject=x)/\(e'≠0->f=RJ):=λe he=>⟨RJ,e,rfl,rfl,z.1,z.2,λh=>absurd h he,λ_=>rfl⟩;cases r.head.status==404
  ·cases r.head.status==410;·simpa[RJ]using bad 260 fI
   ·simpa[RJ]using bad 261 fI
  ·simpa[RJ]using bad 261 fI
 ·simp only[av,aa];rw[ae (show¬((0:Int) !=0)=true by decide),ae (show¬((0:Int) !=0)=true by decide),d1,d2];simp only[aa];cases h2:e !=0
  ·rw [ae fI,ae fI];obtain⟨i,g1,g2⟩:=AtH (N:=N) fG x hx j.aliases 0 λa ha=>by have:=b4 a ha;omega
   have pn:=Akv (N:=N) fG d3 x;have rn:=Al1 (N:=N) fG d3 x;have hn:=AhD (N:=N) j x;have good: ∃f e',(some ((⟨x,ARI N j x,0,q,[]⟩:ApiFinding),(0:Int))=some (f,e'))/\(some ((⟨x,ARI N j x,0,q,[]⟩:ApiFinding),(0:Int))=some (f,e'))/\f.names.length<=64/\f.trace=[]/\(e'=0->f.subject=x)/\(e'≠0->f=RJ):=⟨_,_,rfl,rfl,hn,rfl,λ_=>rfl,λh=>absurd rfl h⟩;rw[Afq _ _ fG hx fG];unfold LG Bg CK;rw[Ai9 _ _ fG hx fG];simp only[aa,AA];have hfs:AL j.aliases.length:=by unfold AL;omega
   simp only[AJ hfs];rw[Ae2 fG x hx _ _ _ λa ha=>by have:=b4 a ha;omega];cases TI N x.text j.subject
   ·simp only[aj,aq,be];rw[show AY N (λj1=>some (-1,j1)) j.aliases 0 x=some (i,x)from g1];simp only[aa];rw[g2];cases j.aliases.any (TI N x.text);·simp only[aL,av,aj,aq];exact⟨RJ,270,rfl,rfl,z.1,z.2,λh=>absurd h fI,λ_=>rfl⟩
    ·simp only[aU,aj,aq,av,pn,rn,f1,f2,aa];exact good
   ·simp only[av,aj,aq,cV,pn,rn,f1,f2,aa];exact good
  ·rw[ah rfl,ah rfl];exact⟨RJ,e,rfl,rfl,z.1,z.2,λh=>(by rw[h]at h2;cases h2),λ_=>rfl⟩
def AVR (f:ApiFinding) (h:f.names.length<=1000000) (ht:f.trace=[]):Q0 N f f=some true:=by unfold Q0 ND;rw[AUB _ h,ht];simp only[d9,cY,av,aa,eS,aj,aq,AA];rw[BV fH];rfl
end
end Go.VM
namespace Go.VM
def Aqq:TA 1099511627776=some true:=by kernel_rfl
section
variable{N:Nat}
theorem AjM (x:ApiID) (h:AIk x):YX N x=some (decide (x.text.length+x.host.length<=1000)):=by obtain⟨_,h2,h3,_⟩:=h;have hr:reachBytes=140737488351232:=rfl;unfold YX;rw[AO fG];congr 1;rw[dc];omega
end
end Go.VM
namespace Go.VM
section
variable{N:Nat}
theorem ACz (k:Unit->Option Bool){P:Bool->Prop} (hf:P false): ∀xs:List ApiField,(∀f,f∈xs->XF f)->((∀f,f∈xs->f.name.length+f.value.length<=600)->Ok (k ()) P)->Ok (Ip N k xs) P
 |[],_,hk=>by rw[Ip];exact hk fH
 | f::xs,ho,hk=>by
  obtain⟨h1,h2⟩:=ho f (.head _);have hr:reachBytes=140737488351232:=rfl;rw[Ip,AO fG];refine .ite (λ_=>.ret hf) λh=>ACz k hf xs (λg hg=>ho g (.tail _ hg)) λhx=>hk λg hg=>?_;rcases aI.1 hg with rfl|hg;·simp at h;omega
  ·exact hx g hg
def Asq (h:ApiHead) (ho:Zb h):Ok (R7 N h) λb=>b=true->h.fields.length<=80/\∀f,f∈h.fields->f.name.length+f.value.length<=600:=by
 unfold R7;refine .ite (λ_=>.ret (by intro h;cases h)) λhl=>?_;have hl':h.fields.length<=80:=by simp at hl;omega
 rw[AA,BV fG];exact ACz _ (by intro h;cases h) _ ho.2.2.2 λhx=>.ret λ_=>⟨hl',hx⟩
end
end Go.VM
namespace Go.VM
section
variable{N:Nat}
def AC7 (k:Unit->Option Bool) (hk: ∃b,k ()=some b): ∀xs:List ApiExchange,∃b,I5 N k xs=some b
 |[]=>hk
 | x::xs=>by
  rw[I5];unfold Xb;rw[aa];split;·exact AC7 k hk xs
  ·exact⟨_,rfl⟩
def AXX (xs:List ApiExchange): ∃b,Qj N xs=some b:=by
 unfold Qj;split;·exact⟨_,rfl⟩
 ·rename_i h;rw[AA,BV (by simp at h;omega)];exact AC7 _ ⟨_,rfl⟩ xs
def AAc (r:ApiResponse) (hr:hdB r.head) (hb:r.body.length<=10000) (hN:3000000<=N) (hN2:N<=1099511627776) (k:Unit->Option Bool): ∀xs:List ApiID,(∀x,x∈xs->x.text.length<=1000000)->DL N r k xs=k () |[],_=>rfl| x::xs,h=>by obtain⟨f,e,a1,a2,a3,a4,_⟩:=ATT (N:=N) r hr hb x (h x (.head _)) hN hN2;rw[DL,a1,a2];dsimp only[AA,Option.bind_some];rw[AVR f fG a4,ae fH,aa,ae fI,AAc r hr hb hN hN2 k xs λy hy=>h y (.tail _ hy)]
end
def Z8 (r:ApiResponse) (hr:WI r) (x:ApiID) (hx:AIk x) (l:List Int) (hl:l.length<=reachBytes/\∀a,a∈l->(Lit.int .u8 a).wf=true):Jl 1099511627776 r x l=some true:=by
 unfold Jl;rw[Aqq,aa,ah rfl];dsimp only[AA];obtain⟨b,e,hk⟩:=Asq (N:=1099511627776) r.head hr.2.1;obtain⟨t,et⟩:=AXX (N:=1099511627776) r.trace;rw[e,aa,AjM x hx,et];simp only[aa];cases b;·rfl
 ·obtain⟨k1,k2⟩:=hk rfl;rw[ah rfl];by_cases hb:r.body.length<=1500
  ·rw [ae fJ];by_cases hm:x.text.length+x.host.length<=1000
   ·rw[ah (by simpa using hm)];cases t;·rfl
    ·obtain⟨y,e2,y1⟩:=Ad8 (N:=1099511627776) (λa h=>wf_u8 (hl.2 a h)) fG;simp only[aU,aj,aq];rw[e2,aa];change grd (AL 2) (DL 1099511627776 _ _ [x,y])=_;rw[BV fG,AAc r ⟨fG,λf hf=>by have:=k2 f hf;omega⟩ fG fG fG];intro z hz;rcases aI.1 hz with rfl|hz;·omega
     ·rcases bm.1 hz with rfl;omega
   ·rw[ae (by simpa using hm),ah trivial]
  ·rw[ah fJ,ah trivial]
end Go.VM
