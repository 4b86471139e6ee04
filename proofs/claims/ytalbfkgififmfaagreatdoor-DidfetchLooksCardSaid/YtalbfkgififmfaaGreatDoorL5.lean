import Derived.Test.YtalbfkgififmfaaGreatDoorL4
set_option linter.defProp false
set_option linter.unusedVariables false
set_option linter.unusedSimpArgs false
namespace Go.VM
section
variable{N:Nat}
def trimB (l:B8):B8:=ABZ VT (l.dropWhile VT)
def Yz (l:B8):(trimB l).length<=l.length:=by have h1:=Akk VT (l.dropWhile VT);have h2:=(cc (l:=l) VT).length_le;unfold trimB;omega
def A1e (c:UInt8):OQ N (AJ c)=some (VT c):=Bl (f:=λn=>OQ N (n:Int)) (g:=λn=>some (decide (n=32)||decide (n=9))) (by kernel_rfl) c
def Anj (k2:B8->Option B8): ∀(l:B8) (k:Nat),l.length<k->Ij N k2 k l=k2 (l.dropWhile VT)
 |[],k+1,_=>by rw[Ij,AB];rfl
 |x::l,k+1,h=>by
  simp only[ae]at h;rw[Ij,AB,an (by simp<;>omega),show idx (x::l) 0=some x from rfl,aa,A1e,aa,bX];try dsimp only
  cases VT x;·rfl
  ·rw[an rfl,ASY,aa,Anj k2 l k fM];rfl
def AqG (k2:B8->Option B8): ∀(l:B8) (k:Nat),l.length<k->Im N k2 k l=k2 (l.dropWhile VT)
 |[],k+1,_=>by rw[Im,AB];rfl
 |x::l,k+1,h=>by
  simp only[ae]at h;rw[Im,AB,an (by simp<;>omega),show idx (x::l) 0=some x from rfl,aa,Axt,aa,bX];try dsimp only
  cases VT x;·rfl
  ·rw[an rfl,ASY,aa,AqG k2 l k fM];rfl
def AqR (k2:B8->Option B8): ∀(n:Nat) (l:B8),l.length=n->n<=2^60->∀k:Nat,n<k->IZ N k2 k l=k2 (ABZ VT l)
 |0,l,hl,hb,k+1,_=>by have:l=[]:=dV.1 hl;subst this;rw[IZ,AB];rfl
 | n+1,l,hl,hb,k+1,h=>by
  obtain⟨l',x,rfl⟩: ∃l' x,l=l'++[x]:=by
   have hne:l≠ []:=λe=>by subst e;simp at hl
   exact⟨l.dropLast,l.getLast hne,(ew hne).symm⟩
  have hl':l'.length=n:=by simpa using hl
  rw[IZ,AB,an (by simp<;>omega),AV7 l' x fM,aa,A1e,aa,AEF];try dsimp only
  cases VT x;·rfl
  ·rw[an rfl,an rfl,AU4 l' x fM,aa,AqR k2 n l' hl' fM k fM]
def AlR (k2:B8->Option B8): ∀(n:Nat) (l:B8),l.length=n->n<=2^60->∀k:Nat,n<k->IW N k2 k l=k2 (ABZ VT l)
 |0,l,hl,hb,k+1,_=>by have:l=[]:=dV.1 hl;subst this;rw[IW,AB];rfl
 | n+1,l,hl,hb,k+1,h=>by
  obtain⟨l',x,rfl⟩: ∃l' x,l=l'++[x]:=by
   have hne:l≠ []:=λe=>by subst e;simp at hl
   exact⟨l.dropLast,l.getLast hne,(ew hne).symm⟩
  have hl':l'.length=n:=by simpa using hl
  rw[IW,AB,an (by simp<;>omega),AV7 l' x fM,aa,Axt,aa,AEF];try dsimp only
  cases VT x;·rfl
  ·rw[an rfl,an rfl,AU4 l' x fM,aa,AlR k2 n l' hl' fM k fM]
def ACh{l:B8} (hb:l.length<=2^60) (hN:l.length<N):OB N l=some (trimB l):=by have h2:=(cc (l:=l) VT).length_le;unfold OB;simp only[AB];rw[Anj _ l N hN,AqR _ _ _ rfl fM N fM];rfl
def AR8{l:B8} (hb:l.length<=2^60) (hN:l.length<N):Pq N l=some (trimB l):=by have h2:=(cc (l:=l) VT).length_le;unfold Pq;simp only[AB];rw[AqG _ l N hN,AlR _ _ _ rfl fM N fM];rfl
def AyK (n:Nat):Bool:=decide (n=9)||(decide (32<=n)&&decide (n≠127))
def Uo (c:UInt8):Bool:=AyK c.toNat
def A3R (c:UInt8):K7 N (AJ c)=some (Uo c):=Bl (f:=λn=>K7 N (n:Int)) (g:=λn=>some (AyK n)) (by kernel_rfl) c
def ADZ (k2:Unit->Option Bool): ∀l:B8,Dp N k2 l=if l.all Uo=true then k2 ()else some false|[]=>by rw[Dp];rfl|x::l=>by rw[Dp,A3R,aa,ADZ k2 l,aQ];cases Uo x<;>simp
def AVj{l:B8} (hb:l.length<=2^60):Gu N l=some (l.all Uo):=by
 unfold Gu;simp only[AB];try rw[AP (by unfold AL;omega)]
 rw[ADZ];cases l.all Uo<;>rfl
def hvc (x:UInt8):(if decide (AJ x<32)=true then(if(AJ x !=9)=true then true else AJ x==127)else AJ x==127)=!Uo x:=Bl (f:=λn=>(if decide ((n:Int)<32)=true then(if((n:Int) !=9)=true then true else(n:Int)==127)else(n:Int)==127)) (g:=λn=>!AyK n) (by kernel_rfl) x
def AHA (k2:Unit->Option Bool): ∀l:B8,Gw N k2 l=if l.all Uo=true then k2 ()else some false
 |[]=>by rw[Gw];rfl
 | x::l=>by
  have hk: ∀K:Bool->Option Bool,(if decide (AJ x<32)=true then(if(AJ x !=9)=true then K true else K (AJ x==127))else K (AJ x==127))=K (!Uo x):=λK=>by
   rw[<-hvc x];split;·split<;>rfl
   ·rfl
  rw[Gw,AB];refine(hk λj6=>if j6=true then some false else Gw N k2 l).trans ?_;try dsimp only
  rw[AHA k2 l,aQ];cases Uo x<;>simp
def Ac8{l:B8} (hb:l.length<=2^60):OE N l=some (l.all Uo):=by
 unfold OE;simp only[AB];try rw[AP (by unfold AL;omega)]
 rw[AHA];cases l.all Uo<;>rfl
def ADn (k2:Unit->Option Bool): ∀l:B8,Ja N k2 l=if l.all AAV=true then k2 ()else some false|[]=>by rw[Ja];rfl|x::l=>by rw[Ja,A10,aa,ADn k2 l,aQ];cases AAV x<;>simp
def AkT{l:B8} (hb:l.length<=2^60):UJ N l=some (!l.isEmpty&&l.all AAV):=by
 unfold UJ;simp only[AB];try rw[AP (by unfold AL;omega)]
 rw[ADn];cases l with|nil=>rfl|cons x l=>cases (x::l).all AAV<;>rfl
def AC4 (k2:Unit->Option Bool): ∀l:B8,GL N k2 l=if l.all AAV=true then k2 ()else some false|[]=>by rw[GL];rfl|x::l=>by rw[GL,A2G,aa,AC4 k2 l,aQ];cases AAV x<;>simp
def Aqu{l:B8} (hb:l.length<=2^60):O1 N l=some (!l.isEmpty&&l.all AAV):=by
 unfold O1;simp only[AB];try rw[AP (by unfold AL;omega)]
 rw[AC4];cases l with|nil=>rfl|cons x l=>cases (x::l).all AAV<;>rfl
def RD:B8:=[72,84,84,80,47,49,46]
def Tu:AH:=⟨0,0,[]⟩
def AGd:B8->Option AH|a::b::c::d::e::f::t=>if(a=48\/a=49)/\b=32/\f=32/\t.all Uo=true/\[c,d,e].all Fj=true/\100<=Et 0 [c,d,e]/\Et 0 [c,d,e]<=599 then some ⟨((a.toNat-48:Nat):Int),((Et 0 [c,d,e]:Nat):Int),[]⟩else none|_=>none
def PZ (l:B8):Option AH:=if preB RD l=true then AGd (l.drop 7)else none
def AuC{c d e:UInt8} (h:[c,d,e].all Fj=true) (h0:c=48):Et 0 [c,d,e]<100:=by simp only[aQ,dZ,dm,aw]at h;have h1:=QU h.1;have h2:=QU h.2.1;have h3:=QU h.2.2;have r1:=RZ h.1;have r2:=RZ h.2.1;have r3:=RZ h.2.2;subst h0;simp only[Et];rw[h1.2,h2.2,h3.2];simp;omega
def AvG (c d e:UInt8):(([c,d,e].all Fj=true/\100<=Et 0 [c,d,e]/\Et 0 [c,d,e]<=599)/\Dw 599 [c,d,e]=(((Et 0 [c,d,e]:Nat):Int),0))\/(¬([c,d,e].all Fj=true/\100<=Et 0 [c,d,e]/\Et 0 [c,d,e]<=599)/\((Dw 599 [c,d,e]).2 !=0||decide ((Dw 599 [c,d,e]).1<100))=true):=by
 unfold Dw;rw[aj fN];by_cases hd:[c,d,e].all Fj=true
 ·rw[an hd];by_cases h48:1< [c,d,e].length/\[c,d,e].head?=some 48;·rw[an h48];have:=AuC hd (by simpa using h48.2);exact .inr ⟨λh=>absurd h.2.1 fM,rfl⟩
  ·rw[aj h48];by_cases hv:Et 0 [c,d,e]<=599
   ·rw[an hv];by_cases hw:100<=Et 0 [c,d,e];·exact .inl ⟨⟨hd,hw,hv⟩,rfl⟩
    ·exact .inr ⟨λh=>hw h.2.1,by rw[cf];exact .inr (aC (by simp only;omega))⟩
   ·rw[aj hv];exact .inr ⟨λh=>hv h.2.2,rfl⟩
 ·rw[aj hd];exact .inr ⟨λh=>hd h.1,rfl⟩
def bnb (x k:UInt8):(AJ x !=AJ k)=(x !=k):=by simp only[bne,ACW]
def ASn{x:UInt8} (h:x=48\/x=49):wr .i64 (wr .u8 (AJ x-48))=((x.toNat-48:Nat):Int):=by rcases h with rfl|rfl<;>rfl
def Ax4{r:B8} (h: ¬r.length<6): ∃a b c d e f t,r=a::b::c::d::e::f::t:=by match r,h with|a::b::c::d::e::f::t,_=>exact⟨a,b,c,d,e,f,t,rfl⟩|[],h|[_],h|[_,_],h|[_,_,_],h|[_,_,_,_],h|[_,_,_,_,_],h=>simp at h
def ABR{r:B8} (h6:r.length<6):AGd r=none:=by
 unfold AGd;split;·simp only[ae]at h6;omega
 ·rfl
theorem AkW{l:B8} (hb:l.length<=2^60):Qj N l=some ((PZ l).getD Tu,(PZ l).isSome):=by
 unfold Qj;rw[show([72,84,84,80,47,49,46]:B8)=RD from rfl,AHW,aa];simp only[AB];unfold PZ;cases hp:preB RD l with
 |false=>rfl
 | true=>
  obtain⟨r,rfl⟩:=RU hp;rw[an rfl,an rfl,an rfl,show(RD++r).drop RD.length=r from c7,show(RD++r).drop 7=r from rfl];by_cases h6:r.length<6;·rw[an (aC (by simp only;omega)),ABR h6];rfl
  ·obtain⟨a,b,c,d,e,f,t,rfl⟩:=Ax4 h6;simp only[ag,ae]at hb;have e0:idx (a::b::c::d::e::f::t) 0=some a:=rfl;have e1:idx (a::b::c::d::e::f::t) 1=some b:=rfl;have e5:idx (a::b::c::d::e::f::t) 5=some f:=rfl;have s6:sub (a::b::c::d::e::f::t) 6 (((a::b::c::d::e::f::t).length:Nat):Int)=some t:=by have:=BP (l:=a::b::c::d::e::f::t) (n:=6) fN;simpa using this
   have s2:sub (a::b::c::d::e::f::t) 2 5=some [c,d,e]:=by have:=Av (a::b::c::d::e::f::t) 2 5 fM fN;simpa using this
   have hst:IR N [c,d,e] 599=some (Dw 599 [c,d,e]):=YF (m:=599) fM _ fN;have a48:(AJ a !=48)=(a !=48):=bnb a 48;have a49:(AJ a !=49)=(a !=49):=bnb a 49;have b32:(AJ b !=32)=(b !=32):=bnb b 32;have f32:(AJ f !=32)=(f !=32):=bnb f 32;rw[aj (by simp only[au];omega)];simp only[e0,e1,e5,s6,s2,aa,Ac8 (N:=N) (l:=t) fM,hst,a48,a49,b32,f32];have hR:AGd (a::b::c::d::e::f::t)=if(a=48\/a=49)/\b=32/\f=32/\t.all Uo=true/\[c,d,e].all Fj=true/\100<=Et 0 [c,d,e]/\Et 0 [c,d,e]<=599 then some ⟨((a.toNat-48:Nat):Int),((Et 0 [c,d,e]:Nat):Int),[]⟩else none:=rfl;rw[hR];generalize t.all Uo=V;generalize hv9:Et 0 [c,d,e]=v at *;rcases AvG c d e with⟨hD,hS⟩|⟨hD,hS⟩
   ·rw[hv9]at hD hS;rw[hS];by_cases ha:a=48\/a=49;·have hm:=ASn ha;have hw:wr .i64 (v:Int)=(v:Int):=Ak fM;have h100:decide ((v:Int)<100)=false:=aF fM;by_cases hb2:b=32<;>by_cases hf:f=32<;>cases V<;>rcases ha with rfl|rfl<;>simp[hb2,hf,hD,hm,hw,h100,Tu]
    ·have ha1:a≠48:=λh=>ha (.inl h);have ha2:a≠49:=λh=>ha (.inr h);simp[ha1,ha2,Tu]
   ·rw[hv9]at hD;have hno: ¬((a=48\/a=49)/\b=32/\f=32/\V=true/\[c,d,e].all Fj=true/\100<=v/\v<=599):=λh=>hD h.2.2.2.2;rw[aj hno];clear hno hD hst hR s2;generalize Dw 599 [c,d,e]=S at hS;rw[cf]at hS;by_cases hb2:b=32<;>by_cases hf:f=32<;>by_cases h1:a=48<;>by_cases h2:a=49<;>cases V<;>simp[hb2,hf,h1,h2,Tu];all_goals (rcases hS with hS|hS<;>simp_all)
def ARY{l:B8} (h:l.length<13):PZ l=none:=by
 unfold PZ;split;·exact ABR (by simp only[aG];omega)
 ·rfl
def AFt{p:B8}: ∀ {l:B8},preB p l=decide (l.take p.length=p):=by
 intro l;by_cases h:l.take p.length=p;·rw[aC h];unfold preB;rw[an (by have:=br List.length h;rw[bb]at this;omega),h];exact d9 _
 ·rw[aF h,<-fd];intro hp;obtain⟨r,rfl⟩:=RU hp;exact h eN
theorem AWa{l:B8} (hb:l.length<=2^60): ∃X:AH,PK N l=some (X,(PZ l).isSome)/\∀h,PZ l=some h->X=h:=by
 unfold PK;simp only[AB];by_cases h13:l.length<13;·rw[an (aC fM),ARY h13];exact⟨_,rfl,λ_ h=>nomatch h⟩
 ·have s0:sub l 0 7=some (l.take 7):=by have:=Av l 0 7 fM fM;simpa using this
  rw[aj (by simp only[au];omega),s0,aa];by_cases h7:l.take 7=RD
  ·have hp:preB RD l=true:=by rw[AFt];exact aC h7
   unfold PZ;rw[an hp];obtain⟨r,rfl⟩:=RU hp;have h6: ¬r.length<6:=by rw[ag,show RD.length=7 from rfl]at h13;omega
   rw[show(RD++r).drop 7=r from rfl];obtain⟨a,b,c,d,e,f,t,rfl⟩:=Ax4 h6;simp only[ag,ae,show RD.length=7 from rfl]at hb;generalize hL:RD++a::b::c::d::e::f::t=L at *;have e0:idx L 7=some a:=by rw[<-hL];rfl
   have e1:idx L 8=some b:=by rw[<-hL];rfl
   have e5:idx L 12=some f:=by rw[<-hL];rfl
   have s6:sub L 13 (L.length:Int)=some t:=by have:=BP (l:=L) (n:=13) fM;rw[<-hL]at this⊢;simpa[RD]using this
   have s2:sub L 9 12=some [c,d,e]:=by have:=Av L 9 12 fM fM;rw[<-hL]at this⊢;simpa[RD]using this
   have hdi:IK N [c,d,e]=some ([c,d,e].all Fj):=by rw[YB _ fN];rfl
   have hpa:Ia N [c,d,e] 999=some (XF 999 [c,d,e]):=by unfold Ia;rw[show(999:Int)=((999:Nat):Int)from rfl,ADp fM fM _ fN,aa]
   have a48:(AJ a !=48)=(a !=48):=bnb a 48;have a49:(AJ a !=49)=(a !=49):=bnb a 49;have b32:(AJ b !=32)=(b !=32):=bnb b 32;have f32:(AJ f !=32)=(f !=32):=bnb f 32;have hbe:(L.take 7==([72,84,84,80,47,49,46]:B8))=true:=be.2 h7;simp only[hbe,az,e0,e1,e5,s6,s2,aa,AVj (N:=N) (l:=t) fM,hdi,hpa,a48,a49,b32,f32];have hR:AGd (a::b::c::d::e::f::t)=if(a=48\/a=49)/\b=32/\f=32/\t.all Uo=true/\[c,d,e].all Fj=true/\100<=Et 0 [c,d,e]/\Et 0 [c,d,e]<=599 then some ⟨((a.toNat-48:Nat):Int),((Et 0 [c,d,e]:Nat):Int),[]⟩else none:=rfl;rw[hR];have h999:[c,d,e].all Fj=true->XF 999 [c,d,e]=(((Et 0 [c,d,e]:Nat):Int),0)/\Et 0 [c,d,e]<=999:=by
    intro hd;have hv:Et 0 [c,d,e]<=999:=by have hd':=hd;simp only[aQ,dZ,dm,aw]at hd';have h1:=QU hd'.1;have h2:=QU hd'.2.1;have h3:=QU hd'.2.2;have r1:=RZ hd'.1;have r2:=RZ hd'.2.1;have r3:=RZ hd'.2.2;simp only[Et];rw[h1.2,h2.2,h3.2];omega
    unfold XF;rw[aj fN,an hd,an hv];exact⟨rfl,hv⟩
   generalize XF 999 [c,d,e]=P at *;generalize [c,d,e].all Fj=D at *;generalize Et 0 [c,d,e]=v at *;generalize t.all Uo=V at *;by_cases ha:a=48\/a=49
   ·have hm:=ASn ha;simp only[hm];generalize ((a.toNat-48:Nat):Int)=M at *;clear hm;by_cases hb2:b=32
    ·by_cases hf:f=32;·cases D with|false=>rcases ha with rfl|rfl<;>simp[hb2,hf]|true=>obtain⟨rfl,hv⟩:=h999 rfl;have hw:wr .i64 (v:Int)=(v:Int):=Ak fM;cases V with|false=>rcases ha with rfl|rfl<;>simp[hb2,hf]|true=>have g1:((100:Int)<=(v:Int))=(100<=v):=propext fM;have g2:((v:Int)<=599)=(v<=599):=propext fM;by_cases h1:100<=v<;>by_cases h2:v<=599;all_goals rcases ha with rfl|rfl<;>simp[hb2,hf,hw,h1,h2,g1,g2]
     ·rcases ha with rfl|rfl<;>simp[hb2,hf]
    ·rcases ha with rfl|rfl<;>simp[hb2]
   ·have ha1:a≠48:=λh=>ha (.inl h);have ha2:a≠49:=λh=>ha (.inr h);simp[ha1,ha2]
  ·have hp: ¬preB RD l=true:=by rw[AFt,show RD.length=7 from rfl];simpa using h7
   unfold PZ;have hbe:(l.take 7==([72,84,84,80,47,49,46]:B8))=false:=by rw[bB];exact h7
   rw[aj hp,hbe];exact⟨_,rfl,λ_ h=>nomatch h⟩
def AM9 (l:B8):Option AG:=if(l.contains 58&&((!(Ac 58 l).1.isEmpty&&(Ac 58 l).1.all AAV)&&(Ac 58 l).2.1.all Uo))=true then some ⟨(Ac 58 l).1.map DL,trimB (Ac 58 l).2.1⟩else none
def AWi (c:B8×B8×Bool):B8:=if c.2.2=true then c.2.1++Bj else []
def Za (l:B8):(J3 l).1.length<=l.length/\(J3 l).2.1.length<=l.length/\((J3 l).2.2=true->(J3 l).2.1.length<l.length):=by unfold J3;cases h:Dc Bj l with|none=>exact⟨av _,aM _,nofun⟩|some k=>have:=(QO h).1;rw[show Bj.length=2 from rfl]at this;simp only[bb,aG];exact⟨fM,fM,λ_=>by omega⟩
def ACy{l:B8} (hb:l.length<=1000000): ∃k:Nat,TE Bj (l++Bj)=(k:Int)/\sub (l++Bj) 0 (k:Int)=some (J3 l).1/\sub (l++Bj) (wr .i64 ((k:Int)+2)) ((l++Bj).length:Int)=some (AWi (J3 l)):=by
 refine⟨(Dc Bj l).getD l.length,?_,?_,?_⟩;·unfold TE;rw[AS3]
 ·unfold J3;cases h:Dc Bj l with|none=>have:=Av (l++Bj) 0 l.length fM fN;simpa using this|some k=>have h1:=(QO h).1;rw[show Bj.length=2 from rfl]at h1;have:=Av (l++Bj) 0 k fM fP;rw[aN,bw,List.take_append_of_le_length fM]at this;simpa using this
 ·unfold AWi J3;cases h:Dc Bj l with
  |none=>
   have w:wr .i64 (((none:Option Nat).getD l.length:Nat)+2:Int)=(((l++Bj).length:Nat):Int):=by rw[Ak (by simp only[ck];omega)];simp[Bj]
   rw[w,BP fM,List.drop_length];rfl
  |some k=>have h1:=(QO h).1;rw[show Bj.length=2 from rfl]at h1;have w:wr .i64 (((some k:Option Nat).getD l.length:Nat)+2:Int)=((k+2:Nat):Int):=Ak (by simp only[dD];omega);rw[w,BP fP,cA h1];rfl
def AGP{l:B8} (m:Bool) (hb:l.length<=1000000):JR N ⟨l,m⟩=some ((J3 l).1,⟨(J3 l).2.1,(J3 l).2.2⟩):=by unfold JR;rw[At8 (by simp only;omega),aa]
def AtJ (k14:List AG×Do->Option (AH×Int×Int)) (k:Nat) (fs:List AG){l:B8} (hb:l.length<=1000000) (hN:1000000<N):EP N k14 (k+1) fs ⟨l,true⟩=if fs.length>=64 then some (Tu,0,161)else match AM9 (J3 l).1 with|none=>some (Tu,0,180)|some f=>EP N k14 k (fs++[f]) ⟨(J3 l).2.1,(J3 l).2.2⟩:=by
 conv=>lhs;unfold EP
 have hc:=Za l;have hc2:=FZ 58 (J3 l).1;rw[an rfl];by_cases h64:fs.length>=64;·rw[an h64,an (aC fM)];rfl
 ·rw[aj h64,aj (by simp only[au];omega),AGP true hb,aa,P6 _ _ (by simp only;omega),aa];simp only[AB];rw[AkT fM,Ac8 fM,lower_eq _ fM,ACh fM fM];have hg: ∀x:Option (AH×Int×Int),grd (Af (fs.length+1) 32) x=x:=λx=>AP (IP fM fM);simp only[hg];unfold AM9;rw[UR];cases (J3 l).1.contains 58;·rfl
  ·generalize Ac 58 (J3 l).1=c;simp only[aa,az,bM];cases (!c.1.isEmpty&&c.1.all AAV);·rfl
   ·cases c.2.1.all Uo<;>rfl
def AKK (k11:List AG->Option (AH×Int×Int)) (k:Nat) (fs:List AG){l:B8} (hb:l.length<=1000000) (hN:1000010<N):CK N k11 (k+1) (l++Bj) fs=if fs.length>=64 then some (Tu,0,161)else match AM9 (J3 l).1 with|none=>some (Tu,0,180)|some f=>CK N k11 k (AWi (J3 l)) (fs++[f]):=by
 conv=>lhs;unfold CK
 have hc:=Za l;have hc2:=FZ 58 (J3 l).1;simp only[AB];rw[aj (by simp[Bj])];by_cases h64:fs.length>=64;·rw[an h64,an (aC fM)];rfl
 ·obtain⟨n,hn1,hn2,hn3⟩:=ACy hb;have hf:Hz N (l++Bj) [13,10]=some (n:Int):=by rw[<-hn1];exact VR fN (by simp[Bj];omega) (by simp[Bj];omega)
  rw[aj h64,aj (by simp only[au];omega),hf,aa,hn2,aa];simp only[hn3,aa];generalize J3 l=C at *;rw[Alx 58 _ fM,aa,WB];unfold AM9;cases h58:C.1.contains 58;·rfl
  ·obtain⟨s1,s2⟩:=V5 h58 fM;simp only[s1,s2,aa];rw[Aqu fM,AVj fM,P8 _ fM,AR8 fM fM];have hg: ∀x:Option (AH×Int×Int),grd (Af (fs.length+1) 32) x=x:=λx=>AP (IP fM fM);simp only[hg];generalize Ac 58 C.1=c;simp only[aa,bM,bo,ap,aA];cases (!c.1.isEmpty&&c.1.all AAV);·rfl
   ·cases c.2.1.all Uo<;>rfl
def EQ (fs:List AG):Nat:=(fs.map λf=>f.name.length+f.value.length).sum
def Fok (B:Nat) (fs:List AG):Prop:=fs.length<=64/\EQ fs<=B
def Auy (c:UInt8) (l:B8):(Ac c l).1.length+(Ac c l).2.1.length<=l.length:=by
 unfold Ac;split;·have:=br List.length (bh (p:=(· !=c)) (l:=l));simp only[ag,aG]at this⊢;omega
 ·simp
def As3{l:B8}{f:AG} (h:AM9 l=some f):f.name.length+f.value.length<=l.length:=by
 unfold AM9 at h;split at h;·cases h;have hc:=Auy 58 l;have:=Yz (Ac 58 l).2.1;simp only[cq];omega
 ·cases h
def Akw (l:B8):(J3 l).1.length+(J3 l).2.1.length<=l.length:=by unfold J3;cases h:Dc Bj l with|none=>simp|some k=>simp only[bb,aG];omega
def Wx (fs:List AG) (f:AG):EQ (fs++[f])=EQ fs+(f.name.length+f.value.length):=by simp[EQ]
def Ab2{B:Nat} (hB:B<=1000000) (hN:1000010<N) (k14:List AG×Do->Option (AH×Int×Int)) (k11:List AG->Option (AH×Int×Int)) (Q:AH×Int×Int->Prop) (hk: ∀fs hl,Fok B fs->k14 (fs,hl)=k11 fs/\∃r,k11 fs=some r/\Q r) (q1:Q (Tu,0,161)) (q2:Q (Tu,0,180)):∀(k:Nat) (fs:List AG) (l:B8) (m:Bool),fs.length<=64->EQ fs+l.length<=B->(if m=true then l.length+1 else 0)<k->EP N k14 k fs ⟨l,m⟩=CK N k11 k (if m=true then l++Bj else []) fs/\∃r,CK N k11 k (if m=true then l++Bj else []) fs=some r/\Q r
 |0,fs,l,m,hf,hl,hm=>absurd hm (cr _)
 |k+1,fs,l,false,hf,hl,hm=>by
  have e1:EP N k14 (k+1) fs ⟨l,false⟩=k14 (fs,⟨l,false⟩):=by unfold EP;rfl
  have e2:CK N k11 (k+1) [] fs=k11 fs:=by unfold CK;rfl
  rw[e1,aj fO,e2];exact hk fs _ ⟨hf,fM⟩
 | k+1,fs,l,true,hf,hl,hm=>by
  rw[an rfl,AtJ k14 k fs fM fM,AKK k11 k fs fM hN];by_cases h64:fs.length>=64;·rw[an h64,an h64];exact⟨rfl,_,rfl,q1⟩
  ·rw[aj h64,aj h64];have hc:=Za l;have hs:=Akw l;cases h:AM9 (J3 l).1 with
   |none=>exact⟨rfl,_,rfl,q2⟩
   |some f=>
    have hfl:=As3 h;rw[an rfl]at hm;refine Ab2 hB hN k14 k11 Q hk q1 q2 k (fs++[f]) (J3 l).2.1 (J3 l).2.2 fP (by rw[Wx];omega) ?_;split;·rename_i h2;have:=hc.2.2 h2;omega
    ·omega
def AKx (n:Nat) (r:AH×Int×Int):Prop:=Fok 16384 r.1.m/\0<=r.2.1/\r.2.1<=n/\(r.2.2=0->100<=r.1.l/\r.1.l<=599/\4<=r.2.1)/\0<=r.1.l/\r.1.l<=599/\(r.1.y=0\/r.1.y=1)/\(r.2.2=0\/r.2.2=142\/r.2.2=161\/r.2.2=180\/r.2.2=191)
def VK (n:Nat){e:Int} (he:e=142\/e=161\/e=180\/e=191):AKx n (Tu,0,e):=⟨⟨aM _,aM _⟩,bE _,by simp only;omega,λh=>by simp only at h;omega,bE 0,(by show(0:Int)<=599;decide),.inl rfl,.inr he⟩
def AUu{l:B8}{h:AH} (e:PZ l=some h):100<=h.l/\h.l<=599/\(h.y=0\/h.y=1)/\h.m=[]:=by
 unfold PZ at e;split at e
 ·unfold AGd at e;split at e
  ·split at e
   ·rename_i h2;cases e;refine⟨by simp only;omega,by simp only;omega,?_,rfl⟩;rcases h2.1 with rfl|rfl;·exact .inl rfl
    ·exact .inr rfl
   ·cases e
  ·cases e
 ·cases e
def AnH (l:B8) (r:AH×Int×Int):Prop:=r.2.2=0-> ∃k h,Dc [13,10,13,10] (l.take 16384)=some k/\PZ (J3 (l.take k)).1=some h/\r.1.l=h.l
def ABK{l:B8} (hb:l.length<=100000000) (hN:1000010<N):QH N l=EF N l/\∃r,EF N l=some r/\AKx l.length r/\AnH l r:=by
 unfold QH EF;have s0:sub l 0 (if 16384<(l.length:Int)then 16384 else(l.length:Int))=some (l.take 16384):=by
  by_cases h:16384<(l.length:Int);·rw[an h];have:=Av l 0 16384 fM fM;simpa using this
  ·rw[aj h];have:=Av l 0 l.length fM fM;rw[aN,bw,c9]at this;rw[bc fM];exact this
 have hT:(l.take 16384).length<=16384:=by rw[bb];omega
 have hT2:(l.take 16384).length<=l.length:=by rw[bb];omega
 have hi:strings_Index N (l.take 16384) [13,10,13,10]=some (TE [13,10,13,10] (l.take 16384)):=Au5 fN fM;have hr:Hz N (l.take 16384) [13,10,13,10]=some (TE [13,10,13,10] (l.take 16384)):=VR fN (by simp only[ae,aq];omega) fM;rw[s0,aa,aa,hi,hr,aa,aa];unfold TE;cases hf:Dc [13,10,13,10] (l.take 16384)with
 |none=>
  simp only[AB];by_cases h:(l.length:Int)>16384;·simp only[aC h];exact⟨rfl,_,rfl,VK _ fM,λh=>absurd h fO⟩
  ·simp only[aF h];exact⟨rfl,_,rfl,VK _ fM,λh=>absurd h fO⟩
 | some k=>
  obtain⟨hk1,hk2⟩:=QO hf;simp only[ae,aq]at hk1;have hneg:decide ((k:Int)<0)=false:=aF fM;have w2:wr .i64 ((k:Int)+2)=((k+2:Nat):Int):=Ak fM;have w4:wr .i64 ((k:Int)+4)=((k+4:Nat):Int):=Ak fM;have p8:sub l 0 (k:Int)=some (l.take k):=by have:=Av l 0 k fM fM;simpa using this
  have r4:sub (l.take 16384) 0 ((k+2:Nat):Int)=some (l.take k++Bj):=by
   have:=Av (l.take 16384) 0 (k+2) fM fM;rw[aN,bw]at this;rw[show((0:Nat):Int)=0 from rfl]at this;rw[this,List.take_add];congr 2;·rw[fA];congr 1;omega
   ·have:=br (List.take 2) hk2;rw[fA]at this;exact this
  have hlk:(l.take k).length<=16384:=by rw[bb];omega
  obtain⟨n,hn1,hn2,hn3⟩:=ACy (l:=l.take k) fM;have hfn:Hz N (l.take k++Bj) [13,10]=some (n:Int):=by rw[<-hn1];exact VR fN (by simp[Bj];omega) (by simp[Bj];omega)
  simp only[AB,hneg,w2,w4,ap,aA,p8,r4,aa,hfn,hn2,AGP false (show(l.take k).length<=1000000 by omega)];have hc:=Za (l.take k);obtain⟨X,hX,hX2⟩:=AWa (N:=N) (l:=(J3 (l.take k)).1) fM;rw[AkW fM,hX,aa,aa];cases hs:PZ (J3 (l.take k)).1 with|none=>exact⟨rfl,_,rfl,VK _ fM,λh=>absurd h fO⟩|some h=>have hok:=AUu hs;rw[hX2 h hs];simp only[cj,az,dD,hn3,aa];refine Ab2 (B:=16384) fM hN _ _ (λr=>AKx l.length r/\AnH l r) ?_ ⟨VK _ fM,λh=>absurd h fO⟩ ⟨VK _ fM,λh=>absurd h fO⟩ N h.m (J3 (l.take k)).2.1 (J3 (l.take k)).2.2 (by rw[hok.2.2.2];exact aM _) (by rw[hok.2.2.2];simp only[EQ,cw,List.sum_nil];omega) (by split<;>omega);intro fs hl hfs;exact⟨rfl,_,rfl,⟨hfs,by simp only;omega,by simp only;omega,λ_=>⟨hok.1,hok.2.1,by simp only;omega⟩,by simp only;omega,hok.2.1,hok.2.2.1,.inl rfl⟩,λ_=>⟨k,h,hf,hs,rfl⟩⟩
def ACY{l:B8} (hb:l.length<=100000000) (hN:1000010<N):QH N l=EF N l/\∃r,EF N l=some r/\AKx l.length r:=by obtain⟨h1,r,h2,h3,_⟩:=ABK (N:=N) hb hN;exact⟨h1,r,h2,h3⟩
def notE (c:UInt8):Bool:=!([13,10]:B8).contains c
def J9 (l:B8):Int:=if preB [13,10] l=true then 0 else if(l==[]||l==[13])=true then 191 else 190
def Hr (l:B8):B8:=l.takeWhile notE
def Fe (l:B8):B8:=l.dropWhile notE
def TR (l:B8):B8:=if J9 l=0 then l.drop 2 else l
def ApS (l:B8):Hr l++Fe l=l:=bh
def ACa (l:B8):(Hr l).length+(Fe l).length=l.length:=by have:=br List.length (ApS l);rwa[ag]at this
def Xu (l:B8):l.drop (Hr l).length=Fe l:=MN notE l
def AW4{l:B8} (h:preB [13,10] l=true):2<=l.length:=by obtain⟨t,rfl⟩:=RU h;simp
def AdO (x:UInt8) (t:B8):J9 (13::x::t)=if x=10 then 0 else 190:=by
 unfold J9 preB;rw[an (show([13,10]:B8).length<=(13::x::t).length from by simp)];by_cases h:x=10;·subst h;rw[an rfl];rfl
 ·have e:(List.take ([13,10]:B8).length (13::x::t)==([13,10]:B8))=false:=by show([13,x]==([13,10]:B8))=false;simpa using h
  rw[e,aj h];rfl
def AnX{l:B8} (h:J9 l=0):preB [13,10] l=true:=by
 unfold J9 at h;split at h;·assumption
 ·split at h<;>cases h
def AJO (l:B8):J9 l=0\/J9 l=191\/J9 l=190:=by
 unfold J9;split;·exact .inl rfl
 ·split;·exact .inr (.inl rfl)
  ·exact .inr (.inr rfl)
def Acp{l:B8} (s:Int):Eg N ⟨l,s⟩=some (J9 l,⟨TR l,s⟩):=by
 unfold Eg;rw[Ww,aa];simp only[AB];unfold TR J9;cases hp:preB [13,10] l
 ·simp only[ap,aA];cases h:l==[];·cases h2:l==([13]:B8)<;>simp
  ·simp
 ·have:=BP (l:=l) (n:=2) (AW4 hp);simp only[az];rw[show((2:Nat):Int)=2 from rfl]at this;rw[this];rfl
def AC5{p:UInt8->Bool}: ∀l:B8,(∀c,c∈l->p c=true)->l.takeWhile p=l|[],_=>rfl|c::l,h=>by rw[bg,an (h c (.head _)),AC5 l λd hd=>h d (.tail _ hd)]
def AmO (l:B8):(if decide (AAU [13,10] l<0)=true then((l.length:Nat):Int)else AAU [13,10] l)=(((Hr l).length:Nat):Int):=by
 unfold AAU Hr;by_cases h:l.any ([13,10]:B8).contains=true;·rw[an h,aj (by simp only[au];omega)];rfl
 ·rw[aj h,an fO];have:l.takeWhile notE=l:=by refine AC5 _ λc hc=>?_;unfold notE;simp only[List.any_eq_true,not_exists,not_and]at h;simpa using h c hc
  rw[this]
def AVT{l:B8} (s:Int) (hb:l.length<=1000000) (hN:20<=N):Iy N ⟨l,s⟩=some (Hr l,J9 (Fe l),⟨TR (Fe l),s⟩):=by
 unfold Iy;rw[show strings_IndexAny N (CA.mk l s).rest [13,10]=some (AAU [13,10] l)from AYG hb hN,aa];simp only[AB];have hl:=ACa l;have key: ∀j:Int,j=(((Hr l).length:Nat):Int)->((sub l 0 j).bind λx7=>(sub l j (l.length:Int)).bind λx8=>(Eg N ⟨x8,s⟩).bind λy9=>some (x7,y9.1,y9.2))=some (Hr l,J9 (Fe l),⟨TR (Fe l),s⟩):=by rintro j rfl;have h1:=Av l 0 (Hr l).length fM fM;rw[aN,bw]at h1;rw[show(0:Int)=((0:Nat):Int)from rfl,h1,BP fM,Xu,aa,aa,Acp,aa];congr 2;exact Ht notE l
 have ha:=AmO l;split at ha;·rename_i h;rw[an h];exact key _ ha
 ·rename_i h;rw[aj h];exact key _ ha
theorem ACb (a:B8) (p:Nat) (hb:a.length<=1000000) (k2:Unit->Option (B8×Int×Int)) (hk:k2 ()=some ([],0,191)): ∀(k i:Nat),i+k=a.length->p<=i->Iq N a (p:Int) k2 k (i:Int)=if J9 (Fe (a.drop i))=0 then some ((a.drop p).take (i-p+(Hr (a.drop i)).length),((i+(Hr (a.drop i)).length+2:Nat):Int),0)else some ([],0,J9 (Fe (a.drop i)))
 |0,i,h,_=>by rw[Iq,hk,bL fM];rfl
 | k+1,i,h,hp=>by
  have he:i<a.length:=fM;have hget:a[i]?=some a[i]:=aS he;rw[Iq,D7,hget,aa,bQ he];have b10:(AJ a[i]==10)=(a[i]==10):=ACW a[i] 10;have b13:(AJ a[i]==13)=(a[i]==13):=ACW a[i] 13;rw[b10,b13];by_cases e10:a[i]=10
  ·rw[e10];have hl:Fe (10::a.drop (i+1))=10::a.drop (i+1):=rfl;have hE:J9 (10::a.drop (i+1))=190:=by unfold J9 preB;cases a.drop (i+1)<;>rfl
   rw[an (show((10:UInt8)==10)=true from rfl),hl,hE];rfl
  ·rw[aj (by simpa using e10)];by_cases e13:a[i]=13
   ·rw[e13];have hl:Fe (13::a.drop (i+1))=13::a.drop (i+1):=rfl;have ht:Hr (13::a.drop (i+1))=[]:=rfl;rw[an (show((13:UInt8)==13)=true from rfl),hl,ht];by_cases hl2:i+1=a.length;·rw[an (by rw[be];omega),bL fM];rfl
    ·have he2:i+1<a.length:=fM;have hget2:a[i+1]?=some a[i+1]:=aS he2;rw[aj (by rw[be];omega),show(i:Int)+1=((i+1:Nat):Int) by omega,D7,hget2,aa,bQ he2];have b10':(AJ a[i+1] !=10)=(a[i+1] !=10):=bnb a[i+1] 10;rw[b10'];by_cases e2:a[i+1]=10
     ·rw[e2];have hE:J9 (13::10::a.drop (i+1+1))=0:=by rw[AdO];rfl
      have w:wr .i64 ((i:Int)+2)=((i+2:Nat):Int):=Ak fM;rw[aj fO,hE,an rfl,Av a p i fM fM,aa,w];rfl
     ·have hE:J9 (13::a[i+1]::a.drop (i+1+1))=190:=by rw[AdO,aj e2]
      rw[an (by simpa using e2),hE];rfl
   ·rw[aj (by simpa using e13)];have hn:notE a[i]=true:=by unfold notE;simp[e10,e13]
    have ht:Hr (a[i]::a.drop (i+1))=a[i]::Hr (a.drop (i+1)):=by unfold Hr;rw[bg,an hn]
    have hr:Fe (a[i]::a.drop (i+1))=Fe (a.drop (i+1)):=by unfold Fe;rw[bX,an hn]
    rw[ht,hr,show(i:Int)+1=((i+1:Nat):Int) by omega,ACb a p hb k2 hk k (i+1) fM fM,ae];split
    ·congr 3;·omega
     ·omega
    ·rfl
def AD0{a:B8}{p:Nat} (hb:a.length<=1000000) (hp:p<=a.length):MI N a (p:Int)=some (if J9 (Fe (a.drop p))=0 then(Hr (a.drop p),((p+(Hr (a.drop p)).length+2:Nat):Int),0)else([],0,J9 (Fe (a.drop p)))):=by
 unfold MI;rw[AB,AP fM,show((a.length:Int)-(p:Int)).toNat=a.length-p by omega,ACb a p hb _ rfl (a.length-p) p fM (av _),dh,bJ];split;·congr 2;exact Ht notE _
 ·rfl
def hxT (l:B8):B8:=l.takeWhile J5
def hxR (l:B8):B8:=l.dropWhile J5
def AF0 (l:B8):Int:=if((Zk 4611686018427387904 (hxT l)).2 !=0)=true then 4611686018427387904 else(Zk 4611686018427387904 (hxT l)).1
def NN (l:B8):Int×Nat×Int:=match hxR l with|[]=>(0,0,191)|x::t=>if(hxT l==[]||!(x==59||x==13))=true then(0,0,190)else if J9 (Fe (x::t))=0 then(AF0 l,(hxT l).length+(Hr (x::t)).length+2,0)else(0,0,J9 (Fe (x::t)))
def Axv (l:B8):hxT l++hxR l=l:=bh
def AHa (l:B8):(hxT l).length+(hxR l).length=l.length:=by have:=br List.length (Axv l);rwa[ag]at this
def AAq (l:B8):l.drop (hxT l).length=hxR l:=MN J5 l
def ApG{c:UInt8} (h:J5 c=true):notE c=true:=by
 have h1:c≠13:=λe=>by subst e;cases h
 have h2:c≠10:=λe=>by subst e;cases h
 unfold notE;simp[h1,h2]
def Awz (l:B8): ∀c,c∈hxT l->J5 c=true:=λc hc=>by
 induction l with
 |nil=>cases hc
 | cons x l ih=>
  unfold hxT at hc ih;rw[bg]at hc;split at hc
  ·rcases aO.1 hc with rfl|hc;·assumption
   ·exact ih hc
  ·cases hc
def AWt: ∀(h t:B8),(∀c,c∈h->notE c=true)->Hr (h++t)=h++Hr t/\Fe (h++t)=Fe t|[],t,_=>⟨rfl,rfl⟩|c::h,t,hh=>by obtain⟨e1,e2⟩:=AWt h t λd hd=>hh d (.tail _ hd);have hc:=hh c (.head _);unfold Hr Fe at *;rw[bD,bg,bX,an hc,an hc,e1,e2];exact⟨rfl,rfl⟩
def Aoz (l:B8):Hr l=hxT l++Hr (hxR l)/\Fe l=Fe (hxR l):=by have:=AWt (hxT l) (hxR l) λc hc=>ApG (Awz l c hc);rwa[Axv]at this
def AGt{l:B8} (s:Int) (hb:l.length<=1000000) (k2:Int->Option (Int×CA)): ∀(k i:Nat),i<=l.length->l.length-i<k->EC N ⟨l,s⟩ k2 k (i:Int)=k2 (((i+(hxT (l.drop i)).length:Nat):Int))
 |0,i,_,h=>by omega
 | k+1,i,hi,hk=>by
  rw[EC];simp only[AB];by_cases he:i<l.length
  ·have hget:l[i]?=some l[i]:=aS he;rw[an (aC fM),D7,hget,aa,ACQ,aa,bQ he];unfold hxT;rw[bg];cases hh:J5 l[i];·rfl
   ·have w:wr .i64 ((i:Int)+1)=((i+1:Nat):Int):=Ak fM;rw[an rfl,w,AGt s hb k2 k (i+1) fM fM,an rfl,ae];unfold hxT;congr 2;omega
  ·rw[aj (by simp only[au];omega),bL fM];rfl
def AGS{a:B8} (hb:a.length<=1000000) (k2:Int->Option (Int×Int×Int)): ∀(k i:Nat),i<=a.length->a.length-i<k->J4 N a k2 k (i:Int)=k2 (((i+(hxT (a.drop i)).length:Nat):Int))
 |0,i,_,h=>by omega
 | k+1,i,hi,hk=>by
  rw[J4];simp only[AB];by_cases he:i<a.length
  ·have hget:a[i]?=some a[i]:=aS he;rw[an (aC fM),D7,hget,aa,ACN,aa,bQ he];unfold hxT;rw[bg];cases hh:J5 a[i];·rfl
   ·have w:wr .i64 ((i:Int)+1)=((i+1:Nat):Int):=Ak fM;rw[an rfl,w,AGS hb k2 k (i+1) fM fM,an rfl,ae];unfold hxT;congr 2;omega
  ·rw[aj (by simp only[au];omega),bL fM];rfl
def AdF{l:B8}{x:UInt8}{t:B8} (h:hxR l=x::t):l[(hxT l).length]?=some x:=by have:=AAq l;rw[h]at this;have h2:=br (·[0]?) this;simpa using h2
def AeL{l:B8} (s:Int) (hb:l.length<=1000000) (hN:1000010<=N): ∃b,Jh N ⟨l,s⟩=some ((NN l).2.2,b)/\((NN l).2.2=0->b=⟨l.drop (NN l).2.1,(NN l).1⟩):=by
 unfold Jh;simp only[AB];have hl:=AHa l;have hlp:=AGt (N:=N) (l:=l) s hb;rw[show(0:Int)=((0:Nat):Int)from rfl,hlp _ N 0 fM fM,aN,bJ];have h1:=Av l 0 (hxT l).length fM fM;rw[aN,bw]at h1;have h2:l.take (hxT l).length=hxT l:=Ht J5 l;rw[h2]at h1;simp only[show((0:Nat):Int)=0 from rfl]at *;rw[h1,aa];unfold NN;cases hr:hxR l with
 |nil=>rw[hr,aq]at hl;rw[an (by rw[be];omega)];exact⟨_,rfl,λh=>by cases h⟩
 | cons x t=>
  rw[hr,ae]at hl;have hx:=AdF hr;rw[aj (by rw[be];omega)];have hz:((((hxT l).length:Nat):Int)==0)=(hxT l==[]):=by cases hxT l with|nil=>rfl|cons y u=>simp;omega
  rw[hz];have hib:strings_IndexByte N ([59,13]:B8) (AJ x)=some (Go.Lib.indexByte [59,13] x):=KP _ _;have hlt:decide (Go.Lib.indexByte [59,13] x<0)=!(x==59||x==13):=by
   have:=IV x [59,13];have e:([59,13]:B8).contains x=(x==59||x==13):=by rw[bA,bA,dY,cV]
   rw[e]at this;rw[<-this];by_cases h0:Go.Lib.indexByte [59,13] x<0;·rw[aC h0,aF fM];rfl
   ·rw[aF h0,aC fM];rfl
  have hline:=Aoz l;rw[hr]at hline;have hx':idx l (((hxT l).length:Nat):Int)=some x:=by rw[D7];exact hx
  have hM:P9 N (hxT l) 4611686018427387904=some (Zk 4611686018427387904 (hxT l)):=AlG (m:=4611686018427387904) fM _ fM;simp only[hx',aa,hib,hlt,AVT (N:=N) (l:=l) s hb fM,hM];cases h0:hxT l==[]
  ·cases h5:(x==59||x==13);·exact⟨_,rfl,λh=>by cases h⟩
   ·simp only[bk,bo,ap,aA];rw[hline.2];by_cases hE:J9 (Fe (x::t))=0
    ·rw[an hE,aj (by rw[hE];decide)];unfold AF0;have hd:TR (Fe (x::t))=l.drop ((hxT l).length+(Hr (x::t)).length+2):=by unfold TR;rw[an hE,<-aT,<-aT,AAq,hr,Xu]
     rw[hd];cases ((Zk 4611686018427387904 (hxT l)).2 !=0);·exact⟨_,rfl,λ_=>rfl⟩
     ·exact⟨_,rfl,λ_=>rfl⟩
    ·rw[aj hE,an (by simpa using hE)];exact⟨_,rfl,λh=>absurd h hE⟩
  ·exact⟨_,rfl,λh=>by cases h⟩
def AmP{a:B8}{p:Nat} (hb:a.length<=1000000) (hp:p<=a.length) (hN:1000010<=N):Rl N a (p:Int)=some (if(NN (a.drop p)).2.2=0 then((NN (a.drop p)).1,((p+(NN (a.drop p)).2.1:Nat):Int),0)else(0,0,(NN (a.drop p)).2.2)):=by
 unfold Rl;simp only[AB];have hl:=AHa (a.drop p);have hal:(a.drop p).length=a.length-p:=aG;rw[AGS hb _ N p hp fM];unfold NN;have hdd: ∀i,a.drop (p+i)=(a.drop p).drop i:=λi=>by rw[aT]
 have h1:=Av a p (p+(hxT (a.drop p)).length) fM fM;rw[show p+(hxT (a.drop p)).length-p=(hxT (a.drop p)).length by omega,show(a.drop p).take (hxT (a.drop p)).length=hxT (a.drop p)from Ht J5 (a.drop p)]at h1;cases hr:hxR (a.drop p)with
 |nil=>rw[hr,aq]at hl;rw[an (by rw[be];omega)];rfl
 | cons x t=>
  rw[hr,ae]at hl;have hx:=AdF hr;have hx':idx a (((p+(hxT (a.drop p)).length:Nat):Int))=some x:=by rw[D7,<-bV];exact hx
  rw[aj (by rw[be];omega)];have hz:((((p+(hxT (a.drop p)).length:Nat):Int))==(p:Int))=(hxT (a.drop p)==[]):=by cases hxT (a.drop p)with|nil=>simp|cons y u=>simp;omega
  have b59:(AJ x !=59)=(x !=59):=bnb x 59;have b13:(AJ x !=13)=(x !=13):=bnb x 13;have hline:MI N a (((p+(hxT (a.drop p)).length:Nat):Int))=some (if J9 (Fe (x::t))=0 then(Hr (x::t),((p+(hxT (a.drop p)).length+(Hr (x::t)).length+2:Nat):Int),0)else([],0,J9 (Fe (x::t)))):=by rw[AD0 hb fM,hdd,AAq,hr]
  have hM:Rh N (hxT (a.drop p)) 4611686018427387904=some (Zk 4611686018427387904 (hxT (a.drop p))):=Apr (m:=4611686018427387904) fM fM _ fM;rw[hz];simp only[hx',aa,b59,b13,hline,hM];have h1':sub a (p:Int) (((p+(hxT (a.drop p)).length:Nat):Int))=some (hxT (a.drop p)):=h1;unfold AF0;cases h0:hxT (a.drop p)==[]
  ·cases h5:x==59
   ·cases h6:x==13;·simp[bne,h5,h6]
    ·by_cases hE:J9 (Fe (x::t))=0;·simp only[bne,h5,h6,hE,h1',hM,az,bo,ba,bk,fI,ap,aA,aa];(generalize Zk 4611686018427387904 (hxT (a.drop p))=P;by_cases hP:P.2=0<;>simp[hP]<;>omega)
     ·have:(J9 (Fe (x::t))==0)=false:=by simpa using hE
      simp[bne,h5,h6,hE,this]
   ·by_cases hE:J9 (Fe (x::t))=0;·simp only[bne,h5,hE,h1',hM,az,bo,ba,bk,cO,ap,aA,aa];(generalize Zk 4611686018427387904 (hxT (a.drop p))=P;by_cases hP:P.2=0<;>simp[hP]<;>omega)
    ·have:(J9 (Fe (x::t))==0)=false:=by simpa using hE
     simp[bne,h5,hE,this]
  ·rfl
end
end Go.VM
