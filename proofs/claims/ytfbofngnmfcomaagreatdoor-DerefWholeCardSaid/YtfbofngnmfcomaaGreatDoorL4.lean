import Derived.Test.YtfbofngnmfcomaaGreatDoorL3
set_option linter.defProp false
set_option linter.unusedVariables false
set_option linter.unusedSimpArgs false
namespace Go.VM
section
variable{N:Nat}{l:B8}
def AsI (n:Nat):Bool:=AAA n||(decide (48<=n)&&decide (n<=57))||([33,35,36,37,38,39,42,43,45,46,94,95,96,124,126]:List Nat).contains n
def Xq (c:UInt8):Bool:=AsI c.toNat
def TK (c:UInt8):Bool:=decide (c.toNat=32)||decide (c.toNat=9)
def AwG (c:UInt8):KC N (AJ c)=some (Xq c):=Cq (f:=λn=>KC N (n:Int)) (g:=λn=>some (AsI n)) (by kernel_rfl) c
def AwQ (c:UInt8):KF N (AJ c)=some (Xq c):=Cq (f:=λn=>KF N (n:Int)) (g:=λn=>some (AsI n)) (by kernel_rfl) c
def Aq0 (c:UInt8):LB N (AJ c)=some (TK c):=Cq (f:=λn=>LB N (n:Int)) (g:=λn=>some (decide (n=32)||decide (n=9))) (by kernel_rfl) c
end
end Go.VM
namespace Go.VM
section
variable{N:Nat}
def trimB (l:B8):B8:=YZ TK (l.dropWhile TK)
def XT (l:B8):(trimB l).length<=l.length:=by have h1:=AjQ TK (l.dropWhile TK);have h2:=(bY (l:=l) TK).length_le;unfold trimB;omega
def AvA (c:UInt8):M4 N (AJ c)=some (TK c):=Cq (f:=λn=>M4 N (n:Int)) (g:=λn=>some (decide (n=32)||decide (n=9))) (by kernel_rfl) c
def Ahf (k2:B8->Option B8): ∀(l:B8) (k:Nat),l.length<k->HV N k2 k l=k2 (l.dropWhile TK)
 |[],k+1,_=>by rw[HV,AC];rfl
 |x::l,k+1,h=>by
  simp only[ag]at h;rw[HV,AC,aq (by simp<;>omega),show idx (x::l) 0=some x from rfl,aa,AvA,aa,bZ];try dsimp only
  cases TK x;·rfl
  ·rw[aq rfl,AO7,aa,Ahf k2 l k fx];rfl
def Ahj (k2:B8->Option B8): ∀(l:B8) (k:Nat),l.length<k->HZ N k2 k l=k2 (l.dropWhile TK)
 |[],k+1,_=>by rw[HZ,AC];rfl
 |x::l,k+1,h=>by
  simp only[ag]at h;rw[HZ,AC,aq (by simp<;>omega),show idx (x::l) 0=some x from rfl,aa,Aq0,aa,bZ];try dsimp only
  cases TK x;·rfl
  ·rw[aq rfl,AO7,aa,Ahj k2 l k fx];rfl
def AjN (k2:B8->Option B8): ∀(n:Nat) (l:B8),l.length=n->n<=2^60->∀k:Nat,n<k->G8 N k2 k l=k2 (YZ TK l)
 |0,l,hl,hb,k+1,_=>by have:l=[]:=dJ.1 hl;subst this;rw[G8,AC];rfl
 | n+1,l,hl,hb,k+1,h=>by
  obtain⟨l',x,rfl⟩: ∃l' x,l=l'++[x]:=by
   have hne:l≠ []:=λe=>by subst e;simp at hl
   exact⟨l.dropLast,l.getLast hne,(d7 hne).symm⟩
  have hl':l'.length=n:=by simpa using hl
  rw[G8,AC,aq (by simp<;>omega),AR5 l' x fx,aa,AvA,aa,Zp];try dsimp only
  cases TK x;·rfl
  ·rw[aq rfl,aq rfl,ASq l' x fx,aa,AjN k2 n l' hl' fx k fx]
def AkI (k2:B8->Option B8): ∀(n:Nat) (l:B8),l.length=n->n<=2^60->∀k:Nat,n<k->G6 N k2 k l=k2 (YZ TK l)
 |0,l,hl,hb,k+1,_=>by have:l=[]:=dJ.1 hl;subst this;rw[G6,AC];rfl
 | n+1,l,hl,hb,k+1,h=>by
  obtain⟨l',x,rfl⟩: ∃l' x,l=l'++[x]:=by
   have hne:l≠ []:=λe=>by subst e;simp at hl
   exact⟨l.dropLast,l.getLast hne,(d7 hne).symm⟩
  have hl':l'.length=n:=by simpa using hl
  rw[G6,AC,aq (by simp<;>omega),AR5 l' x fx,aa,Aq0,aa,Zp];try dsimp only
  cases TK x;·rfl
  ·rw[aq rfl,aq rfl,ASq l' x fx,aa,AkI k2 n l' hl' fx k fx]
def AAP{l:B8} (hb:l.length<=2^60) (hN:l.length<N):Mk N l=some (trimB l):=by have h2:=(bY (l:=l) TK).length_le;unfold Mk;simp only[AC];rw[Ahf _ l N hN,AjN _ _ _ rfl fx N fx];rfl
def AQQ{l:B8} (hb:l.length<=2^60) (hN:l.length<N):OG N l=some (trimB l):=by have h2:=(bY (l:=l) TK).length_le;unfold OG;simp only[AC];rw[Ahj _ l N hN,AkI _ _ _ rfl fx N fx];rfl
def AtW (n:Nat):Bool:=decide (n=9)||(decide (32<=n)&&decide (n≠127))
def SN (c:UInt8):Bool:=AtW c.toNat
def Aws (c:UInt8):Jt N (AJ c)=some (SN c):=Cq (f:=λn=>Jt N (n:Int)) (g:=λn=>some (AtW n)) (by kernel_rfl) c
def ABR (k2:Unit->Option Bool): ∀l:B8,DL N k2 l=if l.all SN=true then k2 ()else some false|[]=>by rw[DL];rfl|x::l=>by rw[DL,Aws,aa,ABR k2 l,bl];cases SN x<;>simp
def ARz{l:B8} (hb:l.length<=2^60):Fv N l=some (l.all SN):=by
 unfold Fv;simp only[AC];try rw[AU (by unfold AL;omega)]
 rw[ABR];cases l.all SN<;>rfl
def hvc (x:UInt8):(if decide (AJ x<32)=true then(if(AJ x !=9)=true then true else AJ x==127)else AJ x==127)=!SN x:=Cq (f:=λn=>(if decide ((n:Int)<32)=true then(if((n:Int) !=9)=true then true else(n:Int)==127)else(n:Int)==127)) (g:=λn=>!AtW n) (by kernel_rfl) x
def AC1 (k2:Unit->Option Bool): ∀l:B8,F7 N k2 l=if l.all SN=true then k2 ()else some false
 |[]=>by rw[F7];rfl
 | x::l=>by
  have hk: ∀K:Bool->Option Bool,(if decide (AJ x<32)=true then(if(AJ x !=9)=true then K true else K (AJ x==127))else K (AJ x==127))=K (!SN x):=λK=>by
   rw[<-hvc x];split;·split<;>rfl
   ·rfl
  rw[F7,AC];refine(hk λj6=>if j6=true then some false else F7 N k2 l).trans ?_;try dsimp only
  rw[AC1 k2 l,bl];cases SN x<;>simp
def AYz{l:B8} (hb:l.length<=2^60):Mo N l=some (l.all SN):=by
 unfold Mo;simp only[AC];try rw[AU (by unfold AL;omega)]
 rw[AC1];cases l.all SN<;>rfl
def Z0 (k2:Unit->Option Bool): ∀l:B8,Iw N k2 l=if l.all Xq=true then k2 ()else some false|[]=>by rw[Iw];rfl|x::l=>by rw[Iw,AwG,aa,Z0 k2 l,bl];cases Xq x<;>simp
def Ag4{l:B8} (hb:l.length<=2^60):Rn N l=some (!l.isEmpty&&l.all Xq):=by
 unfold Rn;simp only[AC];try rw[AU (by unfold AL;omega)]
 rw[Z0];cases l with|nil=>rfl|cons x l=>cases (x::l).all Xq<;>rfl
def AA7 (k2:Unit->Option Bool): ∀l:B8,FM N k2 l=if l.all Xq=true then k2 ()else some false|[]=>by rw[FM];rfl|x::l=>by rw[FM,AwQ,aa,AA7 k2 l,bl];cases Xq x<;>simp
def Agc{l:B8} (hb:l.length<=2^60):Nv N l=some (!l.isEmpty&&l.all Xq):=by
 unfold Nv;simp only[AC];try rw[AU (by unfold AL;omega)]
 rw[AA7];cases l with|nil=>rfl|cons x l=>cases (x::l).all Xq<;>rfl
end
end Go.VM
namespace Go.VM
section
variable{N:Nat}
def PV:B8:=[72,84,84,80,47,49,46]
def Rw:ApiHead:=⟨0,0,[]⟩
def AC9:B8->Option ApiHead|a::b::c::d::e::f::t=>if(a=48\/a=49)/\b=32/\f=32/\t.all SN=true/\[c,d,e].all Gu=true/\100<=EF 0 [c,d,e]/\EF 0 [c,d,e]<=599 then some ⟨((a.toNat-48:Nat):Int),((EF 0 [c,d,e]:Nat):Int),[]⟩else none|_=>none
def Nf (l:B8):Option ApiHead:=if preB PV l=true then AC9 (l.drop 7)else none
def Apd{c d e:UInt8} (h:[c,d,e].all Gu=true) (h0:c=48):EF 0 [c,d,e]<100:=by simp only[bl,e8,dU,av]at h;have h1:=OY h.1;have h2:=OY h.2.1;have h3:=OY h.2.2;have r1:=PX h.1;have r2:=PX h.2.1;have r3:=PX h.2.2;subst h0;simp only[EF];rw[h1.2,h2.2,h3.2];simp;omega
def Ap8 (c d e:UInt8):(([c,d,e].all Gu=true/\100<=EF 0 [c,d,e]/\EF 0 [c,d,e]<=599)/\Du 599 [c,d,e]=(((EF 0 [c,d,e]:Nat):Int),0))\/(¬([c,d,e].all Gu=true/\100<=EF 0 [c,d,e]/\EF 0 [c,d,e]<=599)/\((Du 599 [c,d,e]).2 !=0||decide ((Du 599 [c,d,e]).1<100))=true):=by
 unfold Du;rw[an fy];by_cases hd:[c,d,e].all Gu=true
 ·rw[aq hd];by_cases h48:1< [c,d,e].length/\[c,d,e].head?=some 48;·rw[aq h48];have:=Apd hd (by simpa using h48.2);exact .inr ⟨λh=>absurd h.2.1 fx,rfl⟩
  ·rw[an h48];by_cases hv:EF 0 [c,d,e]<=599
   ·rw[aq hv];by_cases hw:100<=EF 0 [c,d,e];·exact .inl ⟨⟨hd,hw,hv⟩,rfl⟩
    ·exact .inr ⟨λh=>hw h.2.1,by rw[cK];exact .inr (aG (by simp only;omega))⟩
   ·rw[an hv];exact .inr ⟨λh=>hv h.2.2,rfl⟩
 ·rw[an hd];exact .inr ⟨λh=>hd h.1,rfl⟩
def bnb (x k:UInt8):(AJ x !=AJ k)=(x !=k):=by simp only[bne,AAJ]
def APo{x:UInt8} (h:x=48\/x=49):wr .i64 (wr .u8 (AJ x-48))=((x.toNat-48:Nat):Int):=by rcases h with rfl|rfl<;>rfl
def ArU{r:B8} (h: ¬r.length<6): ∃a b c d e f t,r=a::b::c::d::e::f::t:=by match r,h with|a::b::c::d::e::f::t,_=>exact⟨a,b,c,d,e,f,t,rfl⟩|[],h|[_],h|[_,_],h|[_,_,_],h|[_,_,_,_],h|[_,_,_,_,_],h=>simp at h
def Yp{r:B8} (h6:r.length<6):AC9 r=none:=by
 unfold AC9;split;·simp only[ag]at h6;omega
 ·rfl
theorem AiX{l:B8} (hb:l.length<=2^60):O3 N l=some ((Nf l).getD Rw,(Nf l).isSome):=by
 unfold O3;rw[show([72,84,84,80,47,49,46]:B8)=PV from rfl,AYp,aa];simp only[AC];unfold Nf;cases hp:preB PV l with
 |false=>rfl
 | true=>
  obtain⟨r,rfl⟩:=Po hp;rw[aq rfl,aq rfl,aq rfl,show(PV++r).drop PV.length=r from ew,show(PV++r).drop 7=r from rfl];by_cases h6:r.length<6;·rw[aq (aG (by simp only;omega)),Yp h6];rfl
  ·obtain⟨a,b,c,d,e,f,t,rfl⟩:=ArU h6;simp only[ah,ag]at hb;have e0:idx (a::b::c::d::e::f::t) 0=some a:=rfl;have e1:idx (a::b::c::d::e::f::t) 1=some b:=rfl;have e5:idx (a::b::c::d::e::f::t) 5=some f:=rfl;have s6:sub (a::b::c::d::e::f::t) 6 (((a::b::c::d::e::f::t).length:Nat):Int)=some t:=by have:=Bw (l:=a::b::c::d::e::f::t) (n:=6) fy;simpa using this
   have s2:sub (a::b::c::d::e::f::t) 2 5=some [c,d,e]:=by have:=Av (a::b::c::d::e::f::t) 2 5 fx fy;simpa using this
   have hst:G5 N [c,d,e] 599=some (Du 599 [c,d,e]):=VT (m:=599) fx _ fy;have a48:(AJ a !=48)=(a !=48):=bnb a 48;have a49:(AJ a !=49)=(a !=49):=bnb a 49;have b32:(AJ b !=32)=(b !=32):=bnb b 32;have f32:(AJ f !=32)=(f !=32):=bnb f 32;rw[an (by simp only[aw];omega)];simp only[e0,e1,e5,s6,s2,aa,AYz (N:=N) (l:=t) fx,hst,a48,a49,b32,f32];have hR:AC9 (a::b::c::d::e::f::t)=if(a=48\/a=49)/\b=32/\f=32/\t.all SN=true/\[c,d,e].all Gu=true/\100<=EF 0 [c,d,e]/\EF 0 [c,d,e]<=599 then some ⟨((a.toNat-48:Nat):Int),((EF 0 [c,d,e]:Nat):Int),[]⟩else none:=rfl;rw[hR];generalize t.all SN=V;generalize hv9:EF 0 [c,d,e]=v at *;rcases Ap8 c d e with⟨hD,hS⟩|⟨hD,hS⟩
   ·rw[hv9]at hD hS;rw[hS];by_cases ha:a=48\/a=49;·have hm:=APo ha;have hw:wr .i64 (v:Int)=(v:Int):=Aq fx;have h100:decide ((v:Int)<100)=false:=aO fx;by_cases hb2:b=32<;>by_cases hf:f=32<;>cases V<;>rcases ha with rfl|rfl<;>simp[hb2,hf,hD,hm,hw,h100,Rw]
    ·have ha1:a≠48:=λh=>ha (.inl h);have ha2:a≠49:=λh=>ha (.inr h);simp[ha1,ha2,Rw]
   ·rw[hv9]at hD;have hno: ¬((a=48\/a=49)/\b=32/\f=32/\V=true/\[c,d,e].all Gu=true/\100<=v/\v<=599):=λh=>hD h.2.2.2.2;rw[an hno];clear hno hD hst hR s2;generalize Du 599 [c,d,e]=S at hS;rw[cK]at hS;by_cases hb2:b=32<;>by_cases hf:f=32<;>by_cases h1:a=48<;>by_cases h2:a=49<;>cases V<;>simp[hb2,hf,h1,h2,Rw];all_goals (rcases hS with hS|hS<;>simp_all)
def ARX{l:B8} (h:l.length<13):Nf l=none:=by
 unfold Nf;split;·exact Yp (by simp only[aN];omega)
 ·rfl
def ADm{p:B8}: ∀ {l:B8},preB p l=decide (l.take p.length=p):=by
 intro l;by_cases h:l.take p.length=p;·rw[aG h];unfold preB;rw[aq (by have:=bu List.length h;rw[ba]at this;omega),h];exact dt _
 ·rw[aO h,<-eU];intro hp;obtain⟨r,rfl⟩:=Po hp;exact h eA
theorem AQy{l:B8} (hb:l.length<=2^60): ∃X:ApiHead,Nr N l=some (X,(Nf l).isSome)/\∀h,Nf l=some h->X=h:=by
 unfold Nr;simp only[AC];by_cases h13:l.length<13;·rw[aq (aG fx),ARX h13];exact⟨_,rfl,λ_ h=>nomatch h⟩
 ·have s0:sub l 0 7=some (l.take 7):=by have:=Av l 0 7 fx fx;simpa using this
  rw[an (by simp only[aw];omega),s0,aa];by_cases h7:l.take 7=PV
  ·have hp:preB PV l=true:=by rw[ADm];exact aG h7
   unfold Nf;rw[aq hp];obtain⟨r,rfl⟩:=Po hp;have h6: ¬r.length<6:=by rw[ah,show PV.length=7 from rfl]at h13;omega
   rw[show(PV++r).drop 7=r from rfl];obtain⟨a,b,c,d,e,f,t,rfl⟩:=ArU h6;simp only[ah,ag,show PV.length=7 from rfl]at hb;generalize hL:PV++a::b::c::d::e::f::t=L at *;have e0:idx L 7=some a:=by rw[<-hL];rfl
   have e1:idx L 8=some b:=by rw[<-hL];rfl
   have e5:idx L 12=some f:=by rw[<-hL];rfl
   have s6:sub L 13 (L.length:Int)=some t:=by have:=Bw (l:=L) (n:=13) fx;rw[<-hL]at this⊢;simpa[PV]using this
   have s2:sub L 9 12=some [c,d,e]:=by have:=Av L 9 12 fx fx;rw[<-hL]at this⊢;simpa[PV]using this
   have hdi:Gt N [c,d,e]=some ([c,d,e].all Gu):=by rw[VY _ fy];rfl
   have hpa:IZ N [c,d,e] 999=some (Ut 999 [c,d,e]):=by unfold IZ;rw[show(999:Int)=((999:Nat):Int)from rfl,ABC fx fx _ fy,aa]
   have a48:(AJ a !=48)=(a !=48):=bnb a 48;have a49:(AJ a !=49)=(a !=49):=bnb a 49;have b32:(AJ b !=32)=(b !=32):=bnb b 32;have f32:(AJ f !=32)=(f !=32):=bnb f 32;have hbe:(L.take 7==([72,84,84,80,47,49,46]:B8))=true:=bc.2 h7;simp only[hbe,aD,e0,e1,e5,s6,s2,aa,ARz (N:=N) (l:=t) fx,hdi,hpa,a48,a49,b32,f32];have hR:AC9 (a::b::c::d::e::f::t)=if(a=48\/a=49)/\b=32/\f=32/\t.all SN=true/\[c,d,e].all Gu=true/\100<=EF 0 [c,d,e]/\EF 0 [c,d,e]<=599 then some ⟨((a.toNat-48:Nat):Int),((EF 0 [c,d,e]:Nat):Int),[]⟩else none:=rfl;rw[hR];have h999:[c,d,e].all Gu=true->Ut 999 [c,d,e]=(((EF 0 [c,d,e]:Nat):Int),0)/\EF 0 [c,d,e]<=999:=by
    intro hd;have hv:EF 0 [c,d,e]<=999:=by have hd':=hd;simp only[bl,e8,dU,av]at hd';have h1:=OY hd'.1;have h2:=OY hd'.2.1;have h3:=OY hd'.2.2;have r1:=PX hd'.1;have r2:=PX hd'.2.1;have r3:=PX hd'.2.2;simp only[EF];rw[h1.2,h2.2,h3.2];omega
    unfold Ut;rw[an fy,aq hd,aq hv];exact⟨rfl,hv⟩
   generalize Ut 999 [c,d,e]=P at *;generalize [c,d,e].all Gu=D at *;generalize EF 0 [c,d,e]=v at *;generalize t.all SN=V at *;by_cases ha:a=48\/a=49
   ·have hm:=APo ha;simp only[hm];generalize ((a.toNat-48:Nat):Int)=M at *;clear hm;by_cases hb2:b=32
    ·by_cases hf:f=32;·cases D with|false=>rcases ha with rfl|rfl<;>simp[hb2,hf]|true=>obtain⟨rfl,hv⟩:=h999 rfl;have hw:wr .i64 (v:Int)=(v:Int):=Aq fx;cases V with|false=>rcases ha with rfl|rfl<;>simp[hb2,hf]|true=>have g1:((100:Int)<=(v:Int))=(100<=v):=propext fx;have g2:((v:Int)<=599)=(v<=599):=propext fx;by_cases h1:100<=v<;>by_cases h2:v<=599;all_goals rcases ha with rfl|rfl<;>simp[hb2,hf,hw,h1,h2,g1,g2]
     ·rcases ha with rfl|rfl<;>simp[hb2,hf]
    ·rcases ha with rfl|rfl<;>simp[hb2]
   ·have ha1:a≠48:=λh=>ha (.inl h);have ha2:a≠49:=λh=>ha (.inr h);simp[ha1,ha2]
  ·have hp: ¬preB PV l=true:=by rw[ADm,show PV.length=7 from rfl];simpa using h7
   unfold Nf;have hbe:(l.take 7==([72,84,84,80,47,49,46]:B8))=false:=by rw[bw];exact h7
   rw[an hp,hbe];exact⟨_,rfl,λ_ h=>nomatch h⟩
end
end Go.VM
namespace Go.VM
section
variable{N:Nat}
def AKv (l:B8):Option ApiField:=if(l.contains 58&&((!(BI 58 l).1.isEmpty&&(BI 58 l).1.all Xq)&&(BI 58 l).2.1.all SN))=true then some ⟨(BI 58 l).1.map E9,trimB (BI 58 l).2.1⟩else none
def AQT (c:B8×B8×Bool):B8:=if c.2.2=true then c.2.1++BV else []
def XG (l:B8):(I6 l).1.length<=l.length/\(I6 l).2.1.length<=l.length/\((I6 l).2.2=true->(I6 l).2.1.length<l.length):=by unfold I6;cases h:Cy BV l with|none=>exact⟨au _,aJ _,nofun⟩|some k=>have:=(OQ h).1;rw[show BV.length=2 from rfl]at this;simp only[ba,aN];exact⟨fx,fx,λ_=>by omega⟩
def AAp{l:B8} (hb:l.length<=1000000): ∃k:Nat,Qm BV (l++BV)=(k:Int)/\sub (l++BV) 0 (k:Int)=some (I6 l).1/\sub (l++BV) (wr .i64 ((k:Int)+2)) ((l++BV).length:Int)=some (AQT (I6 l)):=by
 refine⟨(Cy BV l).getD l.length,?_,?_,?_⟩;·unfold Qm;rw[AQ6]
 ·unfold I6;cases h:Cy BV l with|none=>have:=Av (l++BV) 0 l.length fx fy;simpa using this|some k=>have h1:=(OQ h).1;rw[show BV.length=2 from rfl]at h1;have:=Av (l++BV) 0 k fx fB;rw[aL,bo,List.take_append_of_le_length fx]at this;simpa using this
 ·unfold AQT I6;cases h:Cy BV l with
  |none=>
   have w:wr .i64 (((none:Option Nat).getD l.length:Nat)+2:Int)=(((l++BV).length:Nat):Int):=by rw[Aq (by simp only[cc];omega)];simp[BV]
   rw[w,Bw fx,List.drop_length];rfl
  |some k=>have h1:=(OQ h).1;rw[show BV.length=2 from rfl]at h1;have w:wr .i64 (((some k:Option Nat).getD l.length:Nat)+2:Int)=((k+2:Nat):Int):=Aq (by simp only[du];omega);rw[w,Bw fB,cZ h1];rfl
def ADZ{l:B8} (m:Bool) (hb:l.length<=1000000):IM N ⟨l,m⟩=some ((I6 l).1,⟨(I6 l).2.1,(I6 l).2.2⟩):=by unfold IM;rw[Ap1 (by simp only;omega),aa]
def Ao7 (k14:List ApiField×HeadLines->Option (ApiHead×Int×Int)) (k:Nat) (fs:List ApiField){l:B8} (hb:l.length<=1000000) (hN:1000000<N):Dm N k14 (k+1) fs ⟨l,true⟩=if fs.length>=64 then some (Rw,0,161)else match AKv (I6 l).1 with|none=>some (Rw,0,180)|some f=>Dm N k14 k (fs++[f]) ⟨(I6 l).2.1,(I6 l).2.2⟩:=by
 conv=>lhs;unfold Dm
 have hc:=XG l;have hc2:=Mj 58 (I6 l).1;rw[aq rfl];by_cases h64:fs.length>=64;·rw[aq h64,aq (aG fx)];rfl
 ·rw[an h64,an (by simp only[aw];omega),ADZ true hb,aa,SK _ _ (by simp only;omega),aa];simp only[AC];rw[Ag4 fx,AYz fx,lower_eq _ fx,AAP fx fx];have hg: ∀x:Option (ApiHead×Int×Int),grd (Ac (fs.length+1) 32) x=x:=λx=>AU (F9 fx fx);simp only[hg];unfold AKv;rw[Aqp];cases (I6 l).1.contains 58;·rfl
  ·generalize BI 58 (I6 l).1=c;simp only[aa,aD,cD];cases (!c.1.isEmpty&&c.1.all Xq);·rfl
   ·cases c.2.1.all SN<;>rfl
def AMB (k11:List ApiField->Option (ApiHead×Int×Int)) (k:Nat) (fs:List ApiField){l:B8} (hb:l.length<=1000000) (hN:1000010<N):CE N k11 (k+1) (l++BV) fs=if fs.length>=64 then some (Rw,0,161)else match AKv (I6 l).1 with|none=>some (Rw,0,180)|some f=>CE N k11 k (AQT (I6 l)) (fs++[f]):=by
 conv=>lhs;unfold CE
 have hc:=XG l;have hc2:=Mj 58 (I6 l).1;simp only[AC];rw[an (by simp[BV])];by_cases h64:fs.length>=64;·rw[aq h64,aq (aG fx)];rfl
 ·obtain⟨n,hn1,hn2,hn3⟩:=AAp hb;have hf:Gm N (l++BV) [13,10]=some (n:Int):=by rw[<-hn1];exact Tq fy (by simp[BV];omega) (by simp[BV];omega)
  rw[an h64,an (by simp only[aw];omega),hf,aa,hn2,aa];simp only[hn3,aa];generalize I6 l=C at *;rw[Aw2 58 _ fx,aa,Ajo];unfold AKv;cases h58:C.1.contains 58;·rfl
  ·obtain⟨s1,s2⟩:=Akw h58 fx;simp only[s1,s2,aa];rw[Agc fx,ARz fx,Pt _ fx,AQQ fx fx];have hg: ∀x:Option (ApiHead×Int×Int),grd (Ac (fs.length+1) 32) x=x:=λx=>AU (F9 fx fx);simp only[hg];generalize BI 58 C.1=c;simp only[aa,cD,bL,aj,aA];cases (!c.1.isEmpty&&c.1.all Xq);·rfl
   ·cases c.2.1.all SN<;>rfl
def Dr (fs:List ApiField):Nat:=(fs.map λf=>f.name.length+f.value.length).sum
def Fok (B:Nat) (fs:List ApiField):Prop:=fs.length<=64/\Dr fs<=B
def Ap2 (c:UInt8) (l:B8):(BI c l).1.length+(BI c l).2.1.length<=l.length:=by
 unfold BI;split;·have:=bu List.length (bA (p:=(· !=c)) (l:=l));simp only[ah,aN]at this⊢;omega
 ·simp
def AnE{l:B8}{f:ApiField} (h:AKv l=some f):f.name.length+f.value.length<=l.length:=by
 unfold AKv at h;split at h;·cases h;have hc:=Ap2 58 l;have:=XT (BI 58 l).2.1;simp only[ck];omega
 ·cases h
def Agi (l:B8):(I6 l).1.length+(I6 l).2.1.length<=l.length:=by unfold I6;cases h:Cy BV l with|none=>simp|some k=>simp only[ba,aN];omega
def Uf (fs:List ApiField) (f:ApiField):Dr (fs++[f])=Dr fs+(f.name.length+f.value.length):=by simp[Dr]
def AX4{B:Nat} (hB:B<=1000000) (hN:1000010<N) (k14:List ApiField×HeadLines->Option (ApiHead×Int×Int)) (k11:List ApiField->Option (ApiHead×Int×Int)) (Q:ApiHead×Int×Int->Prop) (hk: ∀fs hl,Fok B fs->k14 (fs,hl)=k11 fs/\∃r,k11 fs=some r/\Q r) (q1:Q (Rw,0,161)) (q2:Q (Rw,0,180)):∀(k:Nat) (fs:List ApiField) (l:B8) (m:Bool),fs.length<=64->Dr fs+l.length<=B->(if m=true then l.length+1 else 0)<k->Dm N k14 k fs ⟨l,m⟩=CE N k11 k (if m=true then l++BV else []) fs/\∃r,CE N k11 k (if m=true then l++BV else []) fs=some r/\Q r
 |0,fs,l,m,hf,hl,hm=>absurd hm (cm _)
 |k+1,fs,l,false,hf,hl,hm=>by
  have e1:Dm N k14 (k+1) fs ⟨l,false⟩=k14 (fs,⟨l,false⟩):=by unfold Dm;rfl
  have e2:CE N k11 (k+1) [] fs=k11 fs:=by unfold CE;rfl
  rw[e1,an fA,e2];exact hk fs _ ⟨hf,fx⟩
 | k+1,fs,l,true,hf,hl,hm=>by
  rw[aq rfl,Ao7 k14 k fs fx fx,AMB k11 k fs fx hN];by_cases h64:fs.length>=64;·rw[aq h64,aq h64];exact⟨rfl,_,rfl,q1⟩
  ·rw[an h64,an h64];have hc:=XG l;have hs:=Agi l;cases h:AKv (I6 l).1 with
   |none=>exact⟨rfl,_,rfl,q2⟩
   |some f=>
    have hfl:=AnE h;rw[aq rfl]at hm;refine AX4 hB hN k14 k11 Q hk q1 q2 k (fs++[f]) (I6 l).2.1 (I6 l).2.2 fB (by rw[Uf];omega) ?_;split;·rename_i h2;have:=hc.2.2 h2;omega
    ·omega
def AIx (n:Nat) (r:ApiHead×Int×Int):Prop:=Fok 16384 r.1.fields/\0<=r.2.1/\r.2.1<=n/\(r.2.2=0->100<=r.1.status/\r.1.status<=599/\4<=r.2.1)/\0<=r.1.status/\r.1.status<=599/\(r.1.minor=0\/r.1.minor=1)/\(r.2.2=0\/r.2.2=142\/r.2.2=161\/r.2.2=180\/r.2.2=191)
def TW (n:Nat){e:Int} (he:e=142\/e=161\/e=180\/e=191):AIx n (Rw,0,e):=⟨⟨aJ _,aJ _⟩,br _,by simp only;omega,λh=>by simp only at h;omega,br 0,(by show(0:Int)<=599;decide),.inl rfl,.inr he⟩
def AP0{l:B8}{h:ApiHead} (e:Nf l=some h):100<=h.status/\h.status<=599/\(h.minor=0\/h.minor=1)/\h.fields=[]:=by
 unfold Nf at e;split at e
 ·unfold AC9 at e;split at e
  ·split at e
   ·rename_i h2;cases e;refine⟨by simp only;omega,by simp only;omega,?_,rfl⟩;rcases h2.1 with rfl|rfl;·exact .inl rfl
    ·exact .inr rfl
   ·cases e
  ·cases e
 ·cases e
def Akc (l:B8) (r:ApiHead×Int×Int):Prop:=r.2.2=0-> ∃k h,Cy [13,10,13,10] (l.take 16384)=some k/\Nf (I6 (l.take k)).1=some h/\r.1.status=h.status
def Yu{l:B8} (hb:l.length<=100000000) (hN:1000010<N):OV N l=Di N l/\∃r,Di N l=some r/\AIx l.length r/\Akc l r:=by
 unfold OV Di;have s0:sub l 0 (if 16384<(l.length:Int)then 16384 else(l.length:Int))=some (l.take 16384):=by
  by_cases h:16384<(l.length:Int);·rw[aq h];have:=Av l 0 16384 fx fx;simpa using this
  ·rw[an h];have:=Av l 0 l.length fx fx;rw[aL,bo,cT]at this;rw[aZ fx];exact this
 have hT:(l.take 16384).length<=16384:=by rw[ba];omega
 have hT2:(l.take 16384).length<=l.length:=by rw[ba];omega
 have hi:strings_Index N (l.take 16384) [13,10,13,10]=some (Qm [13,10,13,10] (l.take 16384)):=Anu fy fx;have hr:Gm N (l.take 16384) [13,10,13,10]=some (Qm [13,10,13,10] (l.take 16384)):=Tq fy (by simp only[ag,ap];omega) fx;rw[s0,aa,aa,hi,hr,aa,aa];unfold Qm;cases hf:Cy [13,10,13,10] (l.take 16384)with
 |none=>
  simp only[AC];by_cases h:(l.length:Int)>16384;·simp only[aG h];exact⟨rfl,_,rfl,TW _ fx,λh=>absurd h fA⟩
  ·simp only[aO h];exact⟨rfl,_,rfl,TW _ fx,λh=>absurd h fA⟩
 | some k=>
  obtain⟨hk1,hk2⟩:=OQ hf;simp only[ag,ap]at hk1;have hneg:decide ((k:Int)<0)=false:=aO fx;have w2:wr .i64 ((k:Int)+2)=((k+2:Nat):Int):=Aq fx;have w4:wr .i64 ((k:Int)+4)=((k+4:Nat):Int):=Aq fx;have p8:sub l 0 (k:Int)=some (l.take k):=by have:=Av l 0 k fx fx;simpa using this
  have r4:sub (l.take 16384) 0 ((k+2:Nat):Int)=some (l.take k++BV):=by
   have:=Av (l.take 16384) 0 (k+2) fx fx;rw[aL,bo]at this;rw[show((0:Nat):Int)=0 from rfl]at this;rw[this,List.take_add];congr 2;·rw[fk];congr 1;omega
   ·have:=bu (List.take 2) hk2;rw[fk]at this;exact this
  have hlk:(l.take k).length<=16384:=by rw[ba];omega
  obtain⟨n,hn1,hn2,hn3⟩:=AAp (l:=l.take k) fx;have hfn:Gm N (l.take k++BV) [13,10]=some (n:Int):=by rw[<-hn1];exact Tq fy (by simp[BV];omega) (by simp[BV];omega)
  simp only[AC,hneg,w2,w4,aj,aA,p8,r4,aa,hfn,hn2,ADZ false (show(l.take k).length<=1000000 by omega)];have hc:=XG (l.take k);obtain⟨X,hX,hX2⟩:=AQy (N:=N) (l:=(I6 (l.take k)).1) fx;rw[AiX fx,hX,aa,aa];cases hs:Nf (I6 (l.take k)).1 with|none=>exact⟨rfl,_,rfl,TW _ fx,λh=>absurd h fA⟩|some h=>have hok:=AP0 hs;rw[hX2 h hs];simp only[cb,aD,du,hn3,aa];refine AX4 (B:=16384) fx hN _ _ (λr=>AIx l.length r/\Akc l r) ?_ ⟨TW _ fx,λh=>absurd h fA⟩ ⟨TW _ fx,λh=>absurd h fA⟩ N h.fields (I6 (l.take k)).2.1 (I6 (l.take k)).2.2 (by rw[hok.2.2.2];exact aJ _) (by rw[hok.2.2.2];simp only[Dr,cp,List.sum_nil];omega) (by split<;>omega);intro fs hl hfs;exact⟨rfl,_,rfl,⟨hfs,by simp only;omega,by simp only;omega,λ_=>⟨hok.1,hok.2.1,by simp only;omega⟩,by simp only;omega,hok.2.1,hok.2.2.1,.inl rfl⟩,λ_=>⟨k,h,hf,hs,rfl⟩⟩
def ABJ{l:B8} (hb:l.length<=100000000) (hN:1000010<N):OV N l=Di N l/\∃r,Di N l=some r/\AIx l.length r:=by obtain⟨h1,r,h2,h3,_⟩:=Yu (N:=N) hb hN;exact⟨h1,r,h2,h3⟩
end
end Go.VM
namespace Go.VM
section
variable{N:Nat}
def notE (c:UInt8):Bool:=!([13,10]:B8).contains c
def I8 (l:B8):Int:=if preB [13,10] l=true then 0 else if(l==[]||l==[13])=true then 191 else 190
def Gc (l:B8):B8:=l.takeWhile notE
def Em (l:B8):B8:=l.dropWhile notE
def RQ (l:B8):B8:=if I8 l=0 then l.drop 2 else l
def AhY (l:B8):Gc l++Em l=l:=bA
def AAX (l:B8):(Gc l).length+(Em l).length=l.length:=by have:=bu List.length (AhY l);rwa[ah]at this
def Vm (l:B8):l.drop (Gc l).length=Em l:=Ke notE l
def AS3{l:B8} (h:preB [13,10] l=true):2<=l.length:=by obtain⟨t,rfl⟩:=Po h;simp
def AYV (x:UInt8) (t:B8):I8 (13::x::t)=if x=10 then 0 else 190:=by
 unfold I8 preB;rw[aq (show([13,10]:B8).length<=(13::x::t).length from by simp)];by_cases h:x=10;·subst h;rw[aq rfl];rfl
 ·have e:(List.take ([13,10]:B8).length (13::x::t)==([13,10]:B8))=false:=by show([13,x]==([13,10]:B8))=false;simpa using h
  rw[e,an h];rfl
def AlD{l:B8} (h:I8 l=0):preB [13,10] l=true:=by
 unfold I8 at h;split at h;·assumption
 ·split at h<;>cases h
def AMz (l:B8):I8 l=0\/I8 l=191\/I8 l=190:=by
 unfold I8;split;·exact .inl rfl
 ·split;·exact .inr (.inl rfl)
  ·exact .inr (.inr rfl)
def AXr{l:B8} (s:Int):D7 N ⟨l,s⟩=some (I8 l,⟨RQ l,s⟩):=by
 unfold D7;rw[UG,aa];simp only[AC];unfold RQ I8;cases hp:preB [13,10] l
 ·simp only[aj,aA];cases h:l==[];·cases h2:l==([13]:B8)<;>simp
  ·simp
 ·have:=Bw (l:=l) (n:=2) (AS3 hp);simp only[aD];rw[show((2:Nat):Int)=2 from rfl]at this;rw[this];rfl
def AA5{p:UInt8->Bool}: ∀l:B8,(∀c,c∈l->p c=true)->l.takeWhile p=l|[],_=>rfl|c::l,h=>by rw[bb,aq (h c (.head _)),AA5 l λd hd=>h d (.tail _ hd)]
def AlY (l:B8):(if decide (ZU [13,10] l<0)=true then((l.length:Nat):Int)else ZU [13,10] l)=(((Gc l).length:Nat):Int):=by
 unfold ZU Gc;by_cases h:l.any ([13,10]:B8).contains=true;·rw[aq h,an (by simp only[aw];omega)];rfl
 ·rw[an h,aq fA];have:l.takeWhile notE=l:=by refine AA5 _ λc hc=>?_;unfold notE;simp only[List.any_eq_true,not_exists,not_and]at h;simpa using h c hc
  rw[this]
def ASa{l:B8} (s:Int) (hb:l.length<=1000000) (hN:20<=N):Hf N ⟨l,s⟩=some (Gc l,I8 (Em l),⟨RQ (Em l),s⟩):=by
 unfold Hf;rw[show strings_IndexAny N (BodyChunks.mk l s).rest [13,10]=some (ZU [13,10] l)from AWi hb hN,aa];simp only[AC];have hl:=AAX l;have key: ∀j:Int,j=(((Gc l).length:Nat):Int)->((sub l 0 j).bind λx7=>(sub l j (l.length:Int)).bind λx8=>(D7 N ⟨x8,s⟩).bind λy9=>some (x7,y9.1,y9.2))=some (Gc l,I8 (Em l),⟨RQ (Em l),s⟩):=by rintro j rfl;have h1:=Av l 0 (Gc l).length fx fx;rw[aL,bo]at h1;rw[show(0:Int)=((0:Nat):Int)from rfl,h1,Bw fx,Vm,aa,aa,AXr,aa];congr 2;exact Ho notE l
 have ha:=AlY l;split at ha;·rename_i h;rw[aq h];exact key _ ha
 ·rename_i h;rw[an h];exact key _ ha
theorem Zu (a:B8) (p:Nat) (hb:a.length<=1000000) (k2:Unit->Option (B8×Int×Int)) (hk:k2 ()=some ([],0,191)): ∀(k i:Nat),i+k=a.length->p<=i->Gy N a (p:Int) k2 k (i:Int)=if I8 (Em (a.drop i))=0 then some ((a.drop p).take (i-p+(Gc (a.drop i)).length),((i+(Gc (a.drop i)).length+2:Nat):Int),0)else some ([],0,I8 (Em (a.drop i)))
 |0,i,h,_=>by rw[Gy,hk,bI fx];rfl
 | k+1,i,h,hp=>by
  have he:i<a.length:=fx;have hget:a[i]?=some a[i]:=aQ he;rw[Gy,Ei,hget,aa,bM he];have b10:(AJ a[i]==10)=(a[i]==10):=AAJ a[i] 10;have b13:(AJ a[i]==13)=(a[i]==13):=AAJ a[i] 13;rw[b10,b13];by_cases e10:a[i]=10
  ·rw[e10];have hl:Em (10::a.drop (i+1))=10::a.drop (i+1):=rfl;have hE:I8 (10::a.drop (i+1))=190:=by unfold I8 preB;cases a.drop (i+1)<;>rfl
   rw[aq (show((10:UInt8)==10)=true from rfl),hl,hE];rfl
  ·rw[an (by simpa using e10)];by_cases e13:a[i]=13
   ·rw[e13];have hl:Em (13::a.drop (i+1))=13::a.drop (i+1):=rfl;have ht:Gc (13::a.drop (i+1))=[]:=rfl;rw[aq (show((13:UInt8)==13)=true from rfl),hl,ht];by_cases hl2:i+1=a.length;·rw[aq (by rw[bc];omega),bI fx];rfl
    ·have he2:i+1<a.length:=fx;have hget2:a[i+1]?=some a[i+1]:=aQ he2;rw[an (by rw[bc];omega),show(i:Int)+1=((i+1:Nat):Int) by omega,Ei,hget2,aa,bM he2];have b10':(AJ a[i+1] !=10)=(a[i+1] !=10):=bnb a[i+1] 10;rw[b10'];by_cases e2:a[i+1]=10
     ·rw[e2];have hE:I8 (13::10::a.drop (i+1+1))=0:=by rw[AYV];rfl
      have w:wr .i64 ((i:Int)+2)=((i+2:Nat):Int):=Aq fx;rw[an fA,hE,aq rfl,Av a p i fx fx,aa,w];rfl
     ·have hE:I8 (13::a[i+1]::a.drop (i+1+1))=190:=by rw[AYV,an e2]
      rw[aq (by simpa using e2),hE];rfl
   ·rw[an (by simpa using e13)];have hn:notE a[i]=true:=by unfold notE;simp[e10,e13]
    have ht:Gc (a[i]::a.drop (i+1))=a[i]::Gc (a.drop (i+1)):=by unfold Gc;rw[bb,aq hn]
    have hr:Em (a[i]::a.drop (i+1))=Em (a.drop (i+1)):=by unfold Em;rw[bZ,aq hn]
    rw[ht,hr,show(i:Int)+1=((i+1:Nat):Int) by omega,Zu a p hb k2 hk k (i+1) fx fx,ag];split
    ·congr 3;·omega
     ·omega
    ·rfl
def AAH{a:B8}{p:Nat} (hb:a.length<=1000000) (hp:p<=a.length):Ko N a (p:Int)=some (if I8 (Em (a.drop p))=0 then(Gc (a.drop p),((p+(Gc (a.drop p)).length+2:Nat):Int),0)else([],0,I8 (Em (a.drop p)))):=by
 unfold Ko;rw[AC,AU fx,show((a.length:Int)-(p:Int)).toNat=a.length-p by omega,Zu a p hb _ rfl (a.length-p) p fx (au _),dq,bJ];split;·congr 2;exact Ho notE _
 ·rfl
end
end Go.VM
namespace Go.VM
section
variable{N:Nat}
def hxT (l:B8):B8:=l.takeWhile Lr
def hxR (l:B8):B8:=l.dropWhile Lr
def ADw (l:B8):Int:=if((WX 4611686018427387904 (hxT l)).2 !=0)=true then 4611686018427387904 else(WX 4611686018427387904 (hxT l)).1
def Lu (l:B8):Int×Nat×Int:=match hxR l with|[]=>(0,0,191)|x::t=>if(hxT l==[]||!(x==59||x==13))=true then(0,0,190)else if I8 (Em (x::t))=0 then(ADw l,(hxT l).length+(Gc (x::t)).length+2,0)else(0,0,I8 (Em (x::t)))
def Aq4 (l:B8):hxT l++hxR l=l:=bA
def AHI (l:B8):(hxT l).length+(hxR l).length=l.length:=by have:=bu List.length (Aq4 l);rwa[ah]at this
def Xr (l:B8):l.drop (hxT l).length=hxR l:=Ke Lr l
def Agw{c:UInt8} (h:Lr c=true):notE c=true:=by
 have h1:c≠13:=λe=>by subst e;cases h
 have h2:c≠10:=λe=>by subst e;cases h
 unfold notE;simp[h1,h2]
def Aqd (l:B8): ∀c,c∈hxT l->Lr c=true:=λc hc=>by
 induction l with
 |nil=>cases hc
 | cons x l ih=>
  unfold hxT at hc ih;rw[bb]at hc;split at hc
  ·rcases aP.1 hc with rfl|hc;·assumption
   ·exact ih hc
  ·cases hc
def ATN: ∀(h t:B8),(∀c,c∈h->notE c=true)->Gc (h++t)=h++Gc t/\Em (h++t)=Em t|[],t,_=>⟨rfl,rfl⟩|c::h,t,hh=>by obtain⟨e1,e2⟩:=ATN h t λd hd=>hh d (.tail _ hd);have hc:=hh c (.head _);unfold Gc Em at *;rw[bm,bb,bZ,aq hc,aq hc,e1,e2];exact⟨rfl,rfl⟩
def Aih (l:B8):Gc l=hxT l++Gc (hxR l)/\Em l=Em (hxR l):=by have:=ATN (hxT l) (hxR l) λc hc=>Agw (Aqd l c hc);rwa[Aq4]at this
def ACy{l:B8} (s:Int) (hb:l.length<=1000000) (k2:Int->Option (Int×BodyChunks)): ∀(k i:Nat),i<=l.length->l.length-i<k->Db N ⟨l,s⟩ k2 k (i:Int)=k2 (((i+(hxT (l.drop i)).length:Nat):Int))
 |0,i,_,h=>by omega
 | k+1,i,hi,hk=>by
  rw[Db];simp only[AC];by_cases he:i<l.length
  ·have hget:l[i]?=some l[i]:=aQ he;rw[aq (aG fx),Ei,hget,aa,Zd,aa,bM he];unfold hxT;rw[bb];cases hh:Lr l[i];·rfl
   ·have w:wr .i64 ((i:Int)+1)=((i+1:Nat):Int):=Aq fx;rw[aq rfl,w,ACy s hb k2 k (i+1) fx fx,aq rfl,ag];unfold hxT;congr 2;omega
  ·rw[an (by simp only[aw];omega),bI fx];rfl
def ADl{a:B8} (hb:a.length<=1000000) (k2:Int->Option (Int×Int×Int)): ∀(k i:Nat),i<=a.length->a.length-i<k->I5 N a k2 k (i:Int)=k2 (((i+(hxT (a.drop i)).length:Nat):Int))
 |0,i,_,h=>by omega
 | k+1,i,hi,hk=>by
  rw[I5];simp only[AC];by_cases he:i<a.length
  ·have hget:a[i]?=some a[i]:=aQ he;rw[aq (aG fx),Ei,hget,aa,Zi,aa,bM he];unfold hxT;rw[bb];cases hh:Lr a[i];·rfl
   ·have w:wr .i64 ((i:Int)+1)=((i+1:Nat):Int):=Aq fx;rw[aq rfl,w,ADl hb k2 k (i+1) fx fx,aq rfl,ag];unfold hxT;congr 2;omega
  ·rw[an (by simp only[aw];omega),bI fx];rfl
def AXm{l:B8}{x:UInt8}{t:B8} (h:hxR l=x::t):l[(hxT l).length]?=some x:=by have:=Xr l;rw[h]at this;have h2:=bu (·[0]?) this;simpa using h2
def AY6{l:B8} (s:Int) (hb:l.length<=1000000) (hN:1000010<=N): ∃b,IX N ⟨l,s⟩=some ((Lu l).2.2,b)/\((Lu l).2.2=0->b=⟨l.drop (Lu l).2.1,(Lu l).1⟩):=by
 unfold IX;simp only[AC];have hl:=AHI l;have hlp:=ACy (N:=N) (l:=l) s hb;rw[show(0:Int)=((0:Nat):Int)from rfl,hlp _ N 0 fx fx,aL,bJ];have h1:=Av l 0 (hxT l).length fx fx;rw[aL,bo]at h1;have h2:l.take (hxT l).length=hxT l:=Ho Lr l;rw[h2]at h1;simp only[show((0:Nat):Int)=0 from rfl]at *;rw[h1,aa];unfold Lu;cases hr:hxR l with
 |nil=>rw[hr,ap]at hl;rw[aq (by rw[bc];omega)];exact⟨_,rfl,λh=>by cases h⟩
 | cons x t=>
  rw[hr,ag]at hl;have hx:=AXm hr;rw[an (by rw[bc];omega)];have hz:((((hxT l).length:Nat):Int)==0)=(hxT l==[]):=by cases hxT l with|nil=>rfl|cons y u=>simp;omega
  rw[hz];have hib:strings_IndexByte N ([59,13]:B8) (AJ x)=some (Go.Lib.indexByte [59,13] x):=NA _ _;have hlt:decide (Go.Lib.indexByte [59,13] x<0)=!(x==59||x==13):=by
   have:=Kj x [59,13];have e:([59,13]:B8).contains x=(x==59||x==13):=by rw[bC,bC,eO,dV]
   rw[e]at this;rw[<-this];by_cases h0:Go.Lib.indexByte [59,13] x<0;·rw[aG h0,aO fx];rfl
   ·rw[aO h0,aG fx];rfl
  have hline:=Aih l;rw[hr]at hline;have hx':idx l (((hxT l).length:Nat):Int)=some x:=by rw[Ei];exact hx
  have hM:OU N (hxT l) 4611686018427387904=some (WX 4611686018427387904 (hxT l)):=Aj2 (m:=4611686018427387904) fx _ fx;simp only[hx',aa,hib,hlt,ASa (N:=N) (l:=l) s hb fx,hM];cases h0:hxT l==[]
  ·cases h5:(x==59||x==13);·exact⟨_,rfl,λh=>by cases h⟩
   ·simp only[bg,bL,aj,aA];rw[hline.2];by_cases hE:I8 (Em (x::t))=0
    ·rw[aq hE,an (by rw[hE];decide)];unfold ADw;have hd:RQ (Em (x::t))=l.drop ((hxT l).length+(Gc (x::t)).length+2):=by unfold RQ;rw[aq hE,<-aY,<-aY,Xr,hr,Vm]
     rw[hd];cases ((WX 4611686018427387904 (hxT l)).2 !=0);·exact⟨_,rfl,λ_=>rfl⟩
     ·exact⟨_,rfl,λ_=>rfl⟩
    ·rw[an hE,aq (by simpa using hE)];exact⟨_,rfl,λh=>absurd h hE⟩
  ·exact⟨_,rfl,λh=>by cases h⟩
def AjJ{a:B8}{p:Nat} (hb:a.length<=1000000) (hp:p<=a.length) (hN:1000010<=N):QZ N a (p:Int)=some (if(Lu (a.drop p)).2.2=0 then((Lu (a.drop p)).1,((p+(Lu (a.drop p)).2.1:Nat):Int),0)else(0,0,(Lu (a.drop p)).2.2)):=by
 unfold QZ;simp only[AC];have hl:=AHI (a.drop p);have hal:(a.drop p).length=a.length-p:=aN;rw[ADl hb _ N p hp fx];unfold Lu;have hdd: ∀i,a.drop (p+i)=(a.drop p).drop i:=λi=>by rw[aY]
 have h1:=Av a p (p+(hxT (a.drop p)).length) fx fx;rw[show p+(hxT (a.drop p)).length-p=(hxT (a.drop p)).length by omega,show(a.drop p).take (hxT (a.drop p)).length=hxT (a.drop p)from Ho Lr (a.drop p)]at h1;cases hr:hxR (a.drop p)with
 |nil=>rw[hr,ap]at hl;rw[aq (by rw[bc];omega)];rfl
 | cons x t=>
  rw[hr,ag]at hl;have hx:=AXm hr;have hx':idx a (((p+(hxT (a.drop p)).length:Nat):Int))=some x:=by rw[Ei,<-bU];exact hx
  rw[an (by rw[bc];omega)];have hz:((((p+(hxT (a.drop p)).length:Nat):Int))==(p:Int))=(hxT (a.drop p)==[]):=by cases hxT (a.drop p)with|nil=>simp|cons y u=>simp;omega
  have b59:(AJ x !=59)=(x !=59):=bnb x 59;have b13:(AJ x !=13)=(x !=13):=bnb x 13;have hline:Ko N a (((p+(hxT (a.drop p)).length:Nat):Int))=some (if I8 (Em (x::t))=0 then(Gc (x::t),((p+(hxT (a.drop p)).length+(Gc (x::t)).length+2:Nat):Int),0)else([],0,I8 (Em (x::t)))):=by rw[AAH hb fx,hdd,Xr,hr]
  have hM:Ps N (hxT (a.drop p)) 4611686018427387904=some (WX 4611686018427387904 (hxT (a.drop p))):=Ajg (m:=4611686018427387904) fx fx _ fx;rw[hz];simp only[hx',aa,b59,b13,hline,hM];have h1':sub a (p:Int) (((p+(hxT (a.drop p)).length:Nat):Int))=some (hxT (a.drop p)):=h1;unfold ADw;cases h0:hxT (a.drop p)==[]
  ·cases h5:x==59
   ·cases h6:x==13;·simp[bne,h5,h6]
    ·by_cases hE:I8 (Em (x::t))=0;·simp only[bne,h5,h6,hE,h1',hM,aD,bL,bE,bg,fu,aj,aA,aa];(generalize WX 4611686018427387904 (hxT (a.drop p))=P;by_cases hP:P.2=0<;>simp[hP]<;>omega)
     ·have:(I8 (Em (x::t))==0)=false:=by simpa using hE
      simp[bne,h5,h6,hE,this]
   ·by_cases hE:I8 (Em (x::t))=0;·simp only[bne,h5,hE,h1',hM,aD,bL,bE,bg,c7,aj,aA,aa];(generalize WX 4611686018427387904 (hxT (a.drop p))=P;by_cases hP:P.2=0<;>simp[hP]<;>omega)
    ·have:(I8 (Em (x::t))==0)=false:=by simpa using hE
     simp[bne,h5,hE,this]
  ·rfl
end
end Go.VM
