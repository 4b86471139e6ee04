import Derived.Test.YtfcejbjjeaaleaaGreatDoorL10
set_option linter.defProp false
set_option linter.unusedVariables false
set_option linter.unusedSimpArgs false
namespace Go.VM
section
variable{N:Nat}
def Yh{c:UInt8} (h:F3 c=true):c≠35/\c≠63/\c≠47/\c≠58/\c≠37/\c≠64:=by have key:=BJ (f:=λn=>(!F3 (UInt8.ofNat n))||(decide (UInt8.ofNat n≠35)&&(decide (UInt8.ofNat n≠63)&&(decide (UInt8.ofNat n≠47)&&(decide (UInt8.ofNat n≠58)&&(decide (UInt8.ofNat n≠37)&&decide (UInt8.ofNat n≠64))))))) (g:=λ_=>true) (by kernel_rfl) c;simp only[bv]at key;rw[h]at key;simpa using key
def AaX{c:UInt8} (h:AIH c=true\/DC c=true\/c=46):F3 (CX c)=true:=by
 have key:=BJ (f:=λn=>(!(AIH (UInt8.ofNat n)||(DC (UInt8.ofNat n)||decide (UInt8.ofNat n=46))))||F3 (CX (UInt8.ofNat n))) (g:=λ_=>true) (by kernel_rfl) c;simp only[bv]at key;rcases h with h|h|h;·rw[h]at key;simpa using key
 ·rw[h]at key;simpa using key
 ·rw[h]at key⊢;simpa using key
def Y3 (c:UInt8): ∀(l:B8) (x:UInt8),x∈l->x=c\/∃p,p∈AU c l/\x∈p
 |[],x,h=>by cases h
 | y :: t,x,h=>by
  rw[AU];split
  ·rename_i hy;rcases aI.1 h with rfl|h;·exact .inl hy
   ·rcases Y3 c t x h with h|⟨p,hp,AR⟩;·exact .inl h
    ·exact .inr ⟨p,by simp[hp],AR⟩
  ·cases hs:AU c t with
   |nil=>exact absurd hs (Ew c t)
   | cons p ps=>
    simp only;rcases aI.1 h with rfl|h;·exact .inr ⟨x::p,fH,fH⟩
    ·rcases Y3 c t x h with h|⟨q,hq,AR⟩;·exact .inl h
     ·rw[hs]at hq;rcases aI.1 hq with rfl|hq;·exact .inr ⟨y::q,fH,by simp[AR]⟩
      ·exact .inr ⟨q,by simp[hq],AR⟩
def AVB{m:Nat}{l:B8} (h:(Gh m l).2=0):l.all DC=true:=by
 unfold Gh at h;split at h;·cases h
 split at h;·assumption
 ·cases h
def AWN{a:B8} (h:((Jf a).2 !=0)=false):(Jf a).1≠ []/\∀x,x∈(Jf a).1->F3 x=true:=by
 unfold Jf at h⊢;split at h;·cases h
 rename_i h0;rw[ae h0];split at h;·cases h
 rename_i h1;rw[ae h1];split at h;rotate_left;·cases h
 rename_i h2;rw[ah h2];refine⟨by simpa using h0,λx AR=>?_⟩;obtain⟨y,hy,rfl⟩:=bz.1 AR;refine AaX ?_;rcases Y3 46 a y hy with h|⟨p,hp,hyp⟩;·exact .inr (.inr h)
 ·rw[bM]at h2;rcases h2 with h2|h2;·unfold ACl at h2;rw[az]at h2;have:=aS.1 h2.2 p hp;exact .inr (.inl (aS.1 (AVB (by simpa using this)) y hyp))
  ·unfold U1 at h2;rw[az]at h2;have:=aS.1 h2.1 p hp;unfold Qt at this;simp only[az]at this;exact .inl (aS.1 this.2.2.2.2 y hyp)
def AfS{a:B8} (h:((hpS a).2 !=0)=false):(hpS a).1.host≠ []/\∀x,x∈(hpS a).1.host->F3 x=true:=by
 unfold hpS at h⊢;split at h;·rename_i h1;rw[h1]at h;cases h
 rename_i h1;have hc:=AWN (a:=(Ac 58 a).1) (by simpa using h1);rw[ae h1];split at h
 ·rename_i h2;rw[ah h2];split at h;·rename_i h3;rw[h3]at h;cases h
  ·rename_i h3;rw[ae h3];exact hc
 ·rename_i h2;rw[ae h2];exact hc
def AQ8: ∀(k n:Nat) (acc:B8),acc.all F3=true->(AB4 k n acc).all F3=true
 |0,n,acc,h=>h
 | k+1,n,acc,h=>by
  have hd:F3 (UInt8.ofNat (48+n % 10))=true:=by have:n % 10<10:=dz _ fI;generalize n % 10=d at *;have:d=0\/d=1\/d=2\/d=3\/d=4\/d=5\/d=6\/d=7\/d=8\/d=9:=fG;rcases this with rfl|rfl|rfl|rfl|rfl|rfl|rfl|rfl|rfl|rfl<;>decide
  rw[AB4];split;·rw[aK,hd,h];rfl
  ·exact AQ8 k _ _ (by rw[aK,hd,h];rfl)
def Wp{l:B8} (h: ∀x,x∈l->F3 x=true):l.flatMap JI=l:=by induction l with |nil=>rfl| cons c l ih=>rw[aQ,ih λx AR=>h x (by simp[AR])];unfold JI;rw[ah (h c fH)];rfl
def AGD (n:Nat): ∀x,x∈fmtS n->F3 x=true:=λx AR=>aS.1 (AQ8 20 n [] rfl) x AR
def AlO{h:B8} (p:Int) (hh: ∀x,x∈h->F3 x=true):idA h p=(hpF h p).flatMap JI:=by
 unfold idA hpF;split;·rw[Wp hh]
 ·rw[c8,c8,Wp hh,Wp (AGD _),aF];rfl
def Ag0 (b:UInt8) (t:B8):NU (Tp (b.toNat / 16)::Tp (b.toNat % 16)::t)=some b:=by have key:=BJ (f:=λn=>decide (NU [Tp (n / 16),Tp (n % 16)]=some (UInt8.ofNat n))) (g:=λ_=>true) (by kernel_rfl) b;simp only[au,bv]at key;rw[<-key];rfl
def ApR (b:UInt8) (t:B8):unS (NH b++t)=(unS t).map ((true,b):: ·):=by change GG _ (37::Tp (b.toNat / 16)::Tp (b.toNat % 16)::t)=_;rw[GG,ah rfl,Ag0];simp only[dJ,ba];rw[AWi (by simp only[NH,an,ag,ap];omega)]
def Ash{b:UInt8} (h:b≠37) (t:B8):unS ([b]++t)=(unS t).map ((false,b):: ·):=by change GG _ (b::t)=_;rw[GG,ae h,AWi (by simp only[an,ag,ap];omega)]
def Ah7: ∀l:B8,unS (l.flatMap JI)=some (l.map λb=>(!F3 b,b))
 |[]=>rfl
 | b::l=>by
  rw[aQ,aE];have ih:=Ah7 l;cases hp:F3 b;·rw[show JI b=NH b by unfold JI;rw[hp];rfl,ApR,ih];rfl
  ·rw[show JI b=[b] by unfold JI;rw[hp];rfl,Ash (Yh hp).2.2.2.2.1,ih];rfl
def AlT (b:UInt8):(NH b).all YM=true:=by have key:=BJ (f:=λn=>([37,Tp (n / 16),Tp (n % 16)]:B8).all YM) (g:=λ_=>true) (by kernel_rfl) b;exact key
def AXx (l:B8):(l.flatMap JI).all YM=true:=by
 rw[aS];intro x AR;obtain⟨b,_,hb⟩:=List.mem_flatMap.1 AR;unfold JI at hb;split at hb;·rename_i hp;rcases bm.1 hb with rfl;unfold YM;rw[hp];rfl
 ·exact aS.1 (AlT b) x hb
def AS1 (l:B8):(l.flatMap JI).contains 58=false:=by
 cases h:(l.flatMap JI).contains 58;·rfl
 ·have:=aS.1 (AXx l) 58 (by simpa using h);exact absurd this fI
def ABg{l:B8} (hb:(l.flatMap JI).length<=16000) (hN:20000<=N):Af N (l.flatMap JI)=(l,0):=by
 rw[V6 hb hN,Ah7];simp only[fE];congr 1;conv=>rhs;rw[<-List.map_id l]
 congr 1
def ACt{c:UInt8}{l:B8} (h:l.contains c=false):AU c l=[l]:=by rw[NW,Sz h];rfl
def AB0: ∀(ps:List B8) (e:B8),e.contains 58=false->(∀p,p∈ps->p.contains 58=false)->AU 58 (e++ps.flatMap λp=>58::p)=e::ps |[],e,he,_=>by rw[List.flatMap_nil,bQ,ACt he]| p::ps,e,he,h=>by rw[aQ,bf,ZB,ACt he,AB0 ps p (h p fH) λq hq=>h q (by simp[hq])];rfl
def Aaw (hN:20000<=N){I:B8} (hb:I.length<=16000){ps:List B8} (hs:AU 58 I=ps.map λl=>l.flatMap JI) (hne: ∀l,l∈ps->l≠ []):(Q4 I).2=0/\AH4 (Q4 I).1=false:=by
 have hpt:=I4 58 I;have hdk:(AU 58 I).all (V3 N)=true:=by rw[aS];intro p hp;have hl:=hpt p hp;rw[hs]at hp;obtain⟨l,hl',rfl⟩:=bz.1 hp;unfold V3;rw[ABg fG hN];rfl
 have hok:((AU 58 I).all λp=>p.all YM)=true:=by rw[aS];intro p hp;rw[hs]at hp;obtain⟨l,hl',rfl⟩:=bz.1 hp;exact AXx l
 obtain⟨r1,r2⟩:=AJu (N:=N) hN I.length I (aw _) hb;unfold Q4;cases hu:unS I with
 |none=>rw[r1 hu]at hdk;cases hdk
 | some us=>
  obtain⟨_,q2,q3⟩:=r2 us hu;rw[hok]at q2;simp only;rw[ah q2.symm];refine⟨rfl,?_⟩;dsimp only;rw[<-q3 q2.symm,AUk _ _ (Ew 58 I)];have hm:=eW (Ew 58 I);have hdl:=aS.1 hdk _ hm;have hl:=hpt _ hm;rw[ASD fG hN hdl];have hm':(AU 58 I).getLast (Ew 58 I)∈ps.map λl=>l.flatMap JI:=by rw[<-hs];exact hm
  obtain⟨l,hl',he⟩:=bz.1 hm';have hne:=hne l hl';rw[<-he];cases l with |nil=>exact absurd rfl hne| cons b l=>have:=(OA b).2;cases hq:JI b with |nil=>rw[hq]at this;simp at this|cons y ys=>simp[hq]
def Ags{I:B8} (hl:(MI ⟨La,I⟩).length<=4096) (h1:(Q4 I).2=0) (h2:AH4 (Q4 I).1=false):(NR (MI ⟨La,I⟩)).2=0:=by obtain⟨k1,k2,k3⟩:=Ya I;unfold NR;rw[ae fG,k1,k2];dsimp only;rw[ae fI,ae fI,ae fI,ae (by rw[h1];decide),h2];rfl
def Akh{U:ApiURI} (h:(AEW N U).2=0):((hpS U.authority).2 !=0)=false/\(AEW N U).1.host=(hpS U.authority).1.host/\(AEW N U).1.port=(hpS U.authority).1.port:=by
 unfold AEW at h⊢;split at h;·cases h
 rename_i h1;rw[ae h1];split at h;·cases h
 rename_i h2;rw[ae h2];split at h;·rename_i h3;dsimp only at h;rw[h]at h3;cases h3
 rename_i h3;rw[ae h3];split at h;·rename_i h4;dsimp only at h;rw[h]at h4;cases h4
 rename_i h4;rw[ae h4];split at h;·rename_i h5;dsimp only at h;rw[h]at h5;cases h5
 rename_i h5;rw[ae h5];split at h;·rename_i h6;dsimp only at h;rw[h]at h6;cases h6
 rename_i h6;rw[ae h6];split at h;·cases h
 rename_i h7;rw[ae h7];exact⟨by simpa using h3,rfl,rfl⟩
def AcX{u:ApiURL} (h:Sl N u=true):AEW N (Vl TQ (AEK u))=(u,0):=by
 unfold Sl at h;split at h;rotate_left;·cases h
 rename_i h0;have hu:=ApO h;have hp:(Vj N TQ (AEK u)).2=0:=by simpa using h0
 unfold Vj at hu hp;split at hp;·cases hp
 rename_i hl;rw[ae hl]at hu;exact Prod.ext hu.symm hp
theorem Ali{h:B8}{p:Int}{q:B8} (hh: ∀x,x∈h->F3 x=true):(Vl TQ (AEK (HV h p (47::q)))).authority=hpF h p:=by
 have hF: ∀x,x∈hpF h p->x≠35/\x≠63/\x≠47:=by
  intro x AR;unfold hpF at AR;split at AR;·obtain⟨a,b,c,_⟩:=Yh (hh x AR);exact⟨a,b,c⟩
  ·simp only[aY,bm]at AR;rcases AR with(AR|AR)|AR;·obtain⟨a,b,c,_⟩:=Yh (hh x AR);exact⟨a,b,c⟩
   ·subst AR;decide
   ·obtain⟨a,b,c,_⟩:=Yh (AGD _ x AR);exact⟨a,b,c⟩
 have e:AEK (HV h p (47::q))=([47,47]++(hpF h p++[47]))++q:=by have:AEK (HV h p (47::q))=[47,47]++(hpF h p++((47::q)++[])):=rfl;rw[this];simp
 have hne: ∀c:UInt8,(c=35\/c=63)->∀x,x∈([47,47]++(hpF h p++[47]):B8)->x≠c:=by
  intro c hc x AR;simp only[aY,aI,db,ek]at AR;rcases AR with(AR|AR)|AR|AR;·subst AR;rcases hc with rfl|rfl<;>decide
  ·subst AR;rcases hc with rfl|rfl<;>decide
  ·obtain⟨a,b,_⟩:=hF x AR;rcases hc with rfl|rfl<;>assumption
  ·subst AR;rcases hc with rfl|rfl<;>decide
 unfold Vl;dsimp only;rw[e,ABK _ _ (hne 35 (.inl rfl))];dsimp only;rw[ABK _ _ (hne 63 (.inr rfl))];dsimp only;generalize (Ac 63 (Ac 35 q).1).1=z;unfold OI;rw[ah (by rfl)];dsimp only;have:([47,47]++(hpF h p++[47])++z:B8).drop 2=hpF h p++47::z:=fH;rw[this,List.takeWhile_append_of_pos (λx AR=>by simpa using(hF x AR).2.2)];simp
def AZ0 (xs:List B8): ∃q,Lc N xs=47::q:=by
 unfold Lc;split;·exact⟨_,rfl⟩
 ·cases xs with |nil=>exact⟨_,rfl⟩|cons x xs=>exact⟨_,rfl⟩
def round{h:B8}{p:Int}{q:B8} (hN:20000<=N) (hq:q.length<=5000) (hv:(Ym N (HV h p (47::q))).2=0):Dr N (Ym N (HV h p (47::q))).1=(⟨h,p⟩,0):=by
 have hw:=Uk 47 (47::q);have hw1:=Yp (AU 47 (47::q));rw[ag]at hw;unfold Ym at hv⊢;split at hv;rotate_left;·cases hv
 rename_i hval;rw[ah hval];have hw:=AcX hval;obtain⟨w1,w2,w3⟩:=Akh (N:=N) (U:=Vl TQ (AEK (HV h p (47::q)))) (by rw[hw]);rw[hw]at w2 w3;obtain⟨c1,c2⟩:=AfS w1;have hh: ∀x,x∈h->F3 x=true:=by change h=_ at w2;rw[<-w2]at c2;exact c2
 have hn:h≠ []:=by change h=_ at w2;rw[w2];exact c1
 rw[Ali hh]at w1 w2 w3;have hp:hpS (hpF h p)=(⟨h,p⟩,0):=by refine Prod.ext ?_ (by simpa using w1);change h=_ at w2;change p=_ at w3;cases AR:(hpS (hpF h p)).1;rw[AR]at w2 w3;rw[w2,w3]
 have hFn:hpF h p≠ []:=by
  unfold hpF;split;·exact hn
  ·simp
 have main: ∀xs:List B8,(∀x,x∈xs->(Af N x).1≠ [])->(MI ⟨La,idA h p++xs.flatMap (Nq N)⟩).length<=4096->Dr N ⟨La,idA h p++xs.flatMap (Nq N)⟩=(⟨h,p⟩,0):=by
  intro xs AR hl;have hsp:AU 58 (idA h p++xs.flatMap (Nq N))=(hpF h p::xs.map λx=>(Af N x).1).map λl=>l.flatMap JI:=by
   have e:xs.flatMap (Nq N)=(xs.map λx=>(Af N x).1.flatMap JI).flatMap λp=>58::p:=by rw[List.flatMap_map];rfl
   rw[e,AlO p hh,AB0 _ _ (AS1 _) (λy hy=>by obtain⟨x,_,rfl⟩:=bz.1 hy;exact AS1 _),aE,fE];rfl
  have hI:(idA h p++xs.flatMap (Nq N)).length<=4096:=by have:=(Ya (idA h p++xs.flatMap (Nq N))).2.2;omega
  obtain⟨r1,r2⟩:=Aaw hN fG hsp (λl hl=>by
   rcases aI.1 hl with rfl|hl;·exact hFn
   ·obtain⟨x,hx',rfl⟩:=bz.1 hl;exact AR x hx');have hd:=Ags hl r1 r2;have hcut:(Ac 58 (idA h p++xs.flatMap (Nq N))).1=(hpF h p).flatMap JI:=by have:=ACm 58 (idA h p++xs.flatMap (Nq N));rw[hsp]at this;simpa using this.symm
  unfold Dr;rw[ae (show¬((La==La)=false) by decide),ae (by rw[hd];decide),hcut,ABg (by have:=I4 58 (idA h p++xs.flatMap (Nq N)) ((hpF h p).flatMap JI) (by rw[hsp];simp);omega) hN,hp]
 change (UY N h p (47::q) ((AU 47 (47::q)).drop 1)).2=0 at hv;change Dr N (UY N h p (47::q) ((AU 47 (47::q)).drop 1)).1=_;unfold UY at hv⊢;split at hv;·cases hv
 rename_i h1;rw[ae h1];split at hv;·cases hv
 rename_i h2;rw[ae h2];split at hv
 ·rename_i h3;rw[ah h3];split at hv;·cases hv
  rename_i h4;rw[ae h4];have:=main [] fH (by simpa using h4);simpa using this
 rename_i h3;rw[ae h3];split at hv;·cases hv
 rename_i h5;rw[ae h5];split at hv;·cases hv
 rename_i h6;rw[ae h6];refine main _ (λx AR=>?_) (by change¬_>_ at h6;omega);have h5':((AU 47 (47::q)).drop 1).dropLast.any (V4 N)=false:=by simpa using h5
 have:=eT.1 h5' x AR;unfold V4 at this;simp only[bM,fF]at this;simpa using this.2
def AbK{d:ApiDID} (hN:20000<=N) (h:(Vo N d).2=0):((Dr N (Vo N d).1).2 !=0)=false:=by
 unfold Vo at h⊢;split at h;·rename_i h0;dsimp only at h;rw[h]at h0;cases h0
 rename_i h0;rw[ae h0];have hb:=ABL h0;rw[(ALr h0).1]at h⊢;obtain⟨q,hq⟩:=AZ0 (N:=N) ((AU 58 d.iD).drop 1);rw[hq]at h hb⊢;rw[ag]at hb;rw[round hN fG h];rfl
end
end Go.VM
namespace Go.VM
section
variable{N:Nat}
def id0:ApiID:=⟨0,[],[],0⟩
def ABl (N:Nat) (s:B8):ApiID×Int:=if((Uh N s).2 !=0)=true then(id0,(Uh N s).2)else(⟨1,AFO (Uh N s).1,(Uh N s).1.host,0⟩,0)
def AC8 (N:Nat) (s:B8):ApiID×Int:=if((Te N s).2 !=0)=true then(id0,(Te N s).2)else(⟨2,AFF (Te N s).1,(Te N s).1.host,0⟩,0)
def AFI (N:Nat) (a b:B8):ApiID×Int:=if((Vj N a b).2 !=0)=true then(id0,(Vj N a b).2)else(⟨3,Pt (Vj N a b).1,(Vj N a b).1.host,(Vj N a b).1.port⟩,0)
def AE9 (N:Nat) (s:B8):ApiID×Int:=if((NR s).2 !=0)=true then(id0,(NR s).2) else if((Vo N (NR s).1).2 !=0)=true then(id0,(Vo N (NR s).1).2) else(⟨4,MI (Vo N (NR s).1).1,(Dr N (Vo N (NR s).1).1).1.host,(Dr N (Vo N (NR s).1).1).1.port⟩,0)
def Pp (s:B8):B8:=(Ac 58 s).1.map CX
def Ho (N:Nat) (s:B8):ApiID×Int:=if s.length>4096 then(id0,5) else if s.contains 58=false then(id0,60) else if(Pp s==[97,99,99,116])=true then ABl N s else if(Pp s==[109,97,105,108,116,111])=true then AC8 N s else if(Pp s==[104,116,116,112,115])=true then AFI N (Ac 58 s).1 (Ac 58 s).2.1 else if(Pp s==[100,105,100])=true then AE9 N s else(id0,60)
def Ak1 (s:B8) (hb:s.length<=1000000) (hN:20000<=N):JZ N s=some (ABl N s):=by obtain⟨l1,l2⟩:=Y7 (N:=N) s;unfold JZ ABl;rw[Ah4 s hb hN,aa,Ac5 _ ⟨fG,fG⟩,aa];split<;>rfl
def AmR (s:B8) (hb:s.length<=1000000) (hN:20000<=N):Ja N s=some (AC8 N s):=by obtain⟨l1,l2⟩:=ZG (N:=N) s;unfold Ja AC8;rw[AgY s hb hN,aa,AaD _ ⟨fG,fG⟩,aa];split<;>rfl
def AUq (a b:B8):AEj (Vj N a b).1/\(Pt (Vj N a b).1).length<=20000:=by
 have hf: ∀u:ApiURL,Le u.port->u.host.length<=300->u.path.length<=4100->u.query.length<=4100->u.fragment.length<=4100->AEj u/\(Pt u).length<=20000:=λu h1 h2 h3 h4 h5=>by refine⟨⟨h1,fG,fG,fG,fG⟩,?_⟩;have hh:=YV u.host u.port;have ht:=ADa u;unfold Pt;split<;>(simp only[an,ag,ap];omega)
 have hz:AEj Pf/\(Pt Pf).length<=20000:=hf _ (by unfold Le Pf;simp) (by simp[Pf]) (by simp[Pf]) (by simp[Pf]) (by simp[Pf]);unfold Vj;split;·exact hz
 rename_i hl;obtain⟨l1,l2,l3,l4⟩:=AnQ a b;simp only[an,ag]at hl;generalize Vl a b=U at *;have q1:=AMj U.authority;have q2:=ABV U.authority;have n1:=L6 (N:=N) U.path inP;have n2:=L6 (N:=N) U.query inQ;have n3:=L6 (N:=N) U.fragment inQ;have pl:=ACU (N:=N) (EN N U.path inP).1;unfold AEW;repeat' split
 all_goals first| exact hz| exact hf _ q1 (by dsimp only;omega) (by dsimp only;omega) (by dsimp only;omega) (by dsimp only;omega)
def Apx{a b:B8} (h:Mh a) (hb:(a++58::b).length<=1000000) (hN:20000<=N):KX N (a++58::b)=some (AFI N a b):=by unfold KX AFI;rw[AXT h hb hN,aa,Xj _ (AUq a b).1 fG,aa];split<;>rfl
def ApA{a b:B8} (h:Mh a) (hb:(a++58::b).length<=1000000) (hN:20000<=N):Sj N (a++58::b)=some (AFI N a b):=by unfold Sj AFI;rw[AYJ h hb hN,aa,YD _ (AUq a b).1 fG,aa];split<;>rfl
def AcE{h:B8}{p:Int}{path:B8}{L:List B8}:(UY N h p path L).1.method.length<=4096/\(UY N h p path L).1.iD.length<=4096:=by
 have hf: ∀I:B8,¬(MI ⟨La,I⟩).length>4096->(⟨La,I⟩:ApiDID).method.length<=4096/\(⟨La,I⟩:ApiDID).iD.length<=4096:=λI hI=>by have:=(Ya I).2.2;exact⟨by simp[La],by dsimp only;omega⟩
 unfold UY;repeat' split
 all_goals first| exact hf _ (by assumption)| simp[Oz]
def ACy (d:ApiDID):(Vo N d).1.method.length<=4096/\(Vo N d).1.iD.length<=4096:=by
 unfold Vo Ym;split;·simp[Oz]
 split;·exact AcE
 ·simp[Oz]
def AqH (s:B8) (hb:s.length<=1000000) (hN:20000<=N):KJ N s=some (AE9 N s):=by
 obtain⟨l1,l2⟩:=AP9 s;obtain⟨c1,c2⟩:=ACy (N:=N) (NR s).1;unfold KJ AE9;rw[AXb s hb hN,aa,AfO _ l1 fG hN,aa,AFV _ c1 fG hN,aa,ACf _ ⟨fG,fG⟩,aa];split;·rfl
 split;·rfl
 rename_i h;rw[AbK hN (by simpa using h)];rfl
def Ao8 (s:B8) (hb:s.length<=1000000) (hN:20000<=N):K7 N s=some (AE9 N s):=by
 obtain⟨l1,l2⟩:=AP9 s;obtain⟨c1,c2⟩:=ACy (N:=N) (NR s).1;unfold K7 AE9;rw[AXd s hb hN,aa,AiY _ l1 fG hN,aa,Abq _ c1 fG hN,aa,ACJ _ ⟨fG,fG⟩,aa];split;·rfl
 split;·rfl
 rfl
def APc{s:B8} (hc:s.contains 58=true):s=(Ac 58 s).1++58::(Ac 58 s).2.1:=by
 have hlt:=OJ hc;rw[HZ hc];have e:=bw (p:=(· !=(58:UInt8))) (l:=s);have hd:s.dropWhile (· !=(58:UInt8))=58::(s.dropWhile (· !=(58:UInt8))).drop 1:=by cases hq:s.dropWhile (· !=(58:UInt8))with |nil=>rw[hq,bQ]at e;rw[e]at hlt;omega| cons y ys=>have:=dL (λz=>z !=(58:UInt8)) s;rw[hq]at this;simp at this;simp[this]
 conv=>lhs;rw[<-e,hd]
def Z5 (s:B8) (hb:s.length<=1000000) (hN:20000<=N):Kb N s=some (Ho N s):=by
 have hl:=Ib 58 s;unfold Kb Ho;by_cases h1:s.length>4096;·rw[ah fJ,ah h1];rfl
 rw[ae fJ,ae h1,Oo 58 s fG,aa];unfold PL;rw[aa,lower_eq _ fG,aa,Vb];dsimp only[AA];change (if(Pp s==[97,99,99,116])=true then _ else(if(Pp s==[109,97,105,108,116,111])=true then _ else(if(Pp s==[104,116,116,112,115])=true then _ else(if(Pp s==[100,105,100])=true then _ else _))))=_;cases hc:s.contains 58;·cases (Pp s==[97,99,99,116])<;>cases (Pp s==[109,97,105,108,116,111])<;>cases (Pp s==[104,116,116,112,115])<;>cases (Pp s==[100,105,100])<;>rfl
 rw[Ak1 s hb hN,AmR s hb hN,AqH s hb hN];by_cases k1:(Pp s==[97,99,99,116])=true;·rw[k1];rfl
 rw[cT.2 k1];by_cases k2:(Pp s==[109,97,105,108,116,111])=true;·rw[k2];rfl
 rw[cT.2 k2];by_cases k3:(Pp s==[104,116,116,112,115])=true
 ·have hs:=APc hc;have hA:Mh (Ac 58 s).1:=by unfold Mh;simpa[Pp]using k3
  have:=Apx (N:=N) (b:=(Ac 58 s).2.1) hA (by rw[<-hs];exact hb) hN;rw[<-hs]at this;rw[k3,this];rfl
 rw[cT.2 k3];by_cases k4:(Pp s==[100,105,100])=true;·rw[k4];rfl
 rw[cT.2 k4];rfl
def AI0 (s:B8) (hb:s.length<=1000000) (hN:20000<=N):Ki N s=some (Ho N s):=by
 have hl:=Ib 58 s;obtain⟨a1,a2⟩:=Y7 (N:=N) s;obtain⟨m1,m2⟩:=ZG (N:=N) s;unfold Ki Ho;by_cases h1:s.length>4096;·rw[ah fJ,ah h1];rfl
 rw[ae fJ,ae h1,Alj 58 s hb,aa,Xq];cases hc:s.contains 58;·rfl
 rw[ae fI,ae fI,(YF hc hb).1,aa,Nt _ fG,aa];change (if(Pp s==[97,99,99,116])=true then _ else(if(Pp s==[109,97,105,108,116,111])=true then _ else(if(Pp s==[104,116,116,112,115])=true then _ else(if(Pp s==[100,105,100])=true then _ else _))))=_;rw[AeK s hb hN,Aic s hb hN,Ao8 s hb hN];simp only[aa];rw[AcB _ ⟨fG,fG⟩,AYq _ ⟨fG,fG⟩];simp only[aa];by_cases k1:(Pp s==[97,99,99,116])=true;·rw[ah k1,ah k1];unfold ABl;split<;>rfl
 rw[ae k1,ae k1];by_cases k2:(Pp s==[109,97,105,108,116,111])=true;·rw[ah k2,ah k2];unfold AC8;split<;>rfl
 rw[ae k2,ae k2];by_cases k3:(Pp s==[104,116,116,112,115])=true
 ·have hs:=APc hc;have hA:Mh (Ac 58 s).1:=by unfold Mh;simpa[Pp]using k3
  have:=ApA (N:=N) (b:=(Ac 58 s).2.1) hA (by rw[<-hs];exact hb) hN;rw[<-hs]at this;rw[ah k3,ah k3,this];rfl
 rw[ae k3,ae k3];split<;>rfl
def Asn (s:B8):Le (Ho N s).1.port/\(Ho N s).1.host.length<=1000000/\(Ho N s).1.text.length<=100000:=by
 obtain⟨a1,a2⟩:=Y7 (N:=N) s;obtain⟨m1,m2⟩:=ZG (N:=N) s;have hz: ∀e:Int,Le (id0,e).1.port/\(id0,e).1.host.length<=1000000/\(id0,e).1.text.length<=100000:=λe=>⟨by unfold Le id0;simp,by simp[id0],by simp[id0]⟩;have h0:Le 0:=by unfold Le;omega
 unfold Ho;split;·exact hz _
 split;·exact hz _
 split
 ·unfold ABl;split;·exact hz _
  ·refine⟨h0,by dsimp only;omega,?_⟩;unfold AFO;simp only[an,ag,ap];omega
 split
 ·unfold AC8;split;·exact hz _
  ·refine⟨h0,by dsimp only;omega,?_⟩;have:=RG TY (Te N s).1.local_;unfold AFF;simp only[an,ag,ap];omega
 split
 ·unfold AFI;split;·exact hz _
  ·obtain⟨u1,u2⟩:=AUq (N:=N) (Ac 58 s).1 (Ac 58 s).2.1;exact⟨u1.1,u1.2.1,by dsimp only;omega⟩
 split
 ·unfold AE9;obtain⟨c1,c2⟩:=ACy (N:=N) (NR s).1;split;·exact hz _
  split;·exact hz _
  ·obtain⟨p1,p2⟩:=SN (N:=N) (Vo N (NR s).1).1;refine⟨p1,by dsimp only;omega,?_⟩;unfold MI;simp only[an,ag,ap];omega
 ·exact hz _
end
end Go.VM
namespace Go.VM
def ABp{p:UInt8->Bool} (l:B8):(l.dropWhile p).length<=l.length:=(bR p (l:=l)).length_le
def AOs{sg m:B8}{x y:Int} (hm:m.length<=2000000) (h:x=y\/(100000000<=x/\100000000<=y)\/(x<= -100000000/\y<= -100000000)):QT sg m x=QT sg m y:=by
 unfold QT;dsimp only;have h1:=ABp (p:=λx:UInt8=>x==48) m;have h2:=ABj (λx:UInt8=>x==48) (m.dropWhile (λx:UInt8=>x==48));generalize m.dropWhile (λx:UInt8=>x==48)=m1 at *;generalize Oe (λx:UInt8=>x==48) m1=sh at *;by_cases hz:sh=[];·rw[ah hz,ah hz]
 ·rw[ae hz,ae hz];rcases h with rfl|⟨ha,hb⟩|⟨ha,hb⟩;·rfl
  ·rw[ah (.inr (.inr fG)),ah (.inr (.inr fG))]
  ·rw[ah (.inr (.inl fG)),ah (.inr (.inl fG))]
def Abn (P:B8) (f:Nat) (hf:f<=2000000):RB (2^40) P-f=RB (2^30) P-f\/(100000000<=RB (2^40) P-f/\100000000<=RB (2^30) P-f)\/(RB (2^40) P-f<= -100000000/\RB (2^30) P-f<= -100000000):=by
 unfold RB;generalize JR 0 (P.dropWhile ([43,45]:B8).contains)=v;by_cases h:v<=2^30;·rw[cR (show v<=2^40 by omega),cR h];exact .inl rfl
 ·rw[eX (show 2^30<=v by omega)];have h2:2^30<=min v (2^40):=Nat.le_min.2 ⟨fG,fI⟩;split;·exact .inr (.inr ⟨fG,fG⟩)
  ·exact .inr (.inl ⟨fG,fG⟩)
def AVX (sg m:B8) (x:Int):(QT sg m x).2=0\/QT sg m x=([],144):=by
 unfold QT;dsimp only;split;·exact .inl rfl
 ·split;·exact .inr rfl
  ·exact .inl rfl
def ZC (N:Nat) (s:B8):B8×Int:=(EE N s).getD ([],144)
def AiZ{N:Nat}{s:B8} (h0:s≠ []) (hn:Fz s=s.length) (hb:s.length<=2000000) (hN:s.length+30<N):EE N s=some (ZC N s)/\Jr N s=some (ZC N s)/\((ZC N s).2=0\/ZC N s=([],144)):=by
 obtain⟨sg,W,F,FR,P,EX,h⟩:=Ac7 h0 hn;obtain⟨l1,l2,l3⟩:=h.len;have e1:=Akj (N:=N) h hn fG hN;have e2:=Aks (N:=N) h hn fG hN;have e3:ZC N s=QT sg (W++F) (RB (2^40) P-F.length):=by unfold ZC;rw[e1];rfl
 refine⟨by rw[e3];exact e1,?_,by rw[e3];exact AVX _ _ _⟩;rw[e2,e3,AOs (by rw[an];omega) (Abn P F.length fG)]
def Ol{set t:B8}{n:Nat} (h:0<n):Em set (t.take n)=Em set t:=by cases t with |nil=>simp| cons c t=>obtain⟨n,rfl⟩: ∃k,n=k+1:=⟨n-1,fG⟩;rfl
def ADJ (p:UInt8->Bool): ∀(t:B8) (n:Nat),((t.take n).takeWhile p).length=min (t.takeWhile p).length n
 |[],n=>by simp
 |c::t,0=>by simp
 | c::t,n+1=>by
  simp only[bT,aN];cases p c;·simp
  ·simp only[av,ag,ADJ p t n];omega
def VI (t:B8) (n:Nat):Ia (t.take n)=min (Ia t) n:=ADJ _ _ _
def NP (t:B8) (a n:Nat):(t.take n).drop a=(t.drop a).take (n-a):=by rw[List.drop_take]
def Aaa{t:B8}{n:Nat} (h:Dm t<=n) (hn:0<n):Dm (t.take n)=Dm t:=by
 unfold Dm at *;rw[Ol hn];split;·rfl
 ·rename_i hz;rw[ae hz]at h;rw[VI];omega
def AU5{t:B8}{n:Nat} (h:Fu t<=n):Fu (t.take n)=Fu t:=by
 unfold Fu at *;by_cases h1:Em [46] t=true/\0<Ia (t.drop 1)
 ·rw[ah h1]at h⊢;have e:Ia ((t.take n).drop 1)=Ia (t.drop 1):=by rw[NP,VI];omega
  rw[ah ⟨by rw[Ol fG];exact h1.1,by rw[e];exact h1.2⟩,e]
 ·rw [ae h1];refine ae λh2=>h1 ⟨?_,?_⟩
  ·have:0<n:=by
    rcases dn n with e|e;·subst e;simp[Em]at h2
    ·exact e
   rw[Ol this]at h2;exact h2.1
  ·have:=h2.2;rw[NP,VI]at this;omega
def Ack{t:B8}:Oc (t.take (Oc t))=Oc t:=by
 unfold Oc;by_cases h1:Em [101,69] t=true/\0<Ia (t.drop (1+Mi t))
 ·rw[ah h1];have h12:=h1.2;have hg: ∀n,1<n->Mi (t.take n)=Mi t:=λn hn=>by unfold Mi;rw[NP,Ol fG]
  have e:Ia ((t.take (1+Mi t+Ia (t.drop (1+Mi t)))).drop (1+Mi t))=Ia (t.drop (1+Mi t)):=by rw[NP,VI];omega
  rw[hg _ fG,e,ah ⟨by rw[Ol fG];exact h1.1,h1.2⟩]
 ·rw[ae h1,dA];exact ae λh=>by simp[Em]at h
def AbA (t:B8):Fz (t.take (Fz t))=Fz t:=by
 by_cases hz:Dm (t.drop (Aa t))=0
 ·have e:Fz t=0:=by unfold Fz;rw[ah hz]
  rw[e,dA];rfl
 ·have e:Fz t=Aa t+Dm (t.drop (Aa t))+Fu (t.drop (Aa t+Dm (t.drop (Aa t))))+Oc (t.drop (Aa t+Dm (t.drop (Aa t))+Fu (t.drop (Aa t+Dm (t.drop (Aa t)))))):=by unfold Fz;rw[ae hz]
  generalize hn:Fz t=n at *;have hs:Aa (t.take n)=Aa t:=by unfold Aa;rw[Ol fG]
  have hi:Dm ((t.take n).drop (Aa t))=Dm (t.drop (Aa t)):=by rw[NP];exact Aaa fG fG
  have hf:Fu ((t.take n).drop (Aa t+Dm (t.drop (Aa t))))=Fu (t.drop (Aa t+Dm (t.drop (Aa t)))):=by rw[NP];exact AU5 fG
  have he:Oc ((t.take n).drop (Aa t+Dm (t.drop (Aa t))+Fu (t.drop (Aa t+Dm (t.drop (Aa t))))))=Oc (t.drop (Aa t+Dm (t.drop (Aa t))+Fu (t.drop (Aa t+Dm (t.drop (Aa t)))))):=by rw[NP];have:n-(Aa t+Dm (t.drop (Aa t))+Fu (t.drop (Aa t+Dm (t.drop (Aa t)))))=Oc (t.drop (Aa t+Dm (t.drop (Aa t))+Fu (t.drop (Aa t+Dm (t.drop (Aa t)))))):=fG;rw[this];exact Ack
  unfold Fz;rw[hs,hi,ae hz,hf,he];exact e.symm
inductive TK (n:Nat):ApiToken->Prop |fin (p:Int):TK n (ApiToken.mk 1 [] p) |pun (c:UInt8) (p:Int) (h:UB.contains c=true):TK n (ApiToken.mk 2 [c] p) |txt (s:B8) (p:Int) (h:s.length<=n):TK n (ApiToken.mk 3 s p) |num (s:B8) (p:Int) (h0:s≠ []) (h:Fz s=s.length) (hl:s.length<=n):TK n (ApiToken.mk 4 s p) |wrd (s:B8) (p:Int) (h:isWord s=true):TK n (ApiToken.mk 5 s p)
def AgF{N:Nat}{l:B8}{i:Nat} (hi:i<=l.length) (he:(Qp N l i).2.2=0):TK l.length (Qp N l i).1/\∃j:Nat,(Qp N l i).2.1=j/\i<=j/\j<=l.length/\((Qp N l i).1.kind≠1->i<j):=by
 unfold Qp at he⊢;have hw:=KM wsB (l.drop i);rw[aB]at hw;generalize hp:i+((l.drop i).takeWhile wsB).length=p at he⊢;obtain⟨t,ht⟩: ∃t,l.drop p=t:=⟨_,rfl⟩;have hl:p+t.length=l.length:=by rw[<-ht,aB];omega
 rw[ht]at he⊢;match t,hl,he with
 |[],hl,he=>exact⟨.fin _,p,rfl,fG,by simp at hl;omega,λh=>absurd rfl h⟩
 | c::r,hl,he=>
  simp only[ag]at hl;rw[Y2]at he⊢;by_cases h1:UB.contains c=true;·rw[ah h1];exact⟨.pun c _ h1,p+1,rfl,fG,fG,λ_=>by omega⟩
  rw[ae h1]at he⊢;by_cases h2:c.toNat=34
  ·rw[ah h2]at he⊢;by_cases h3:(IV N r (p+1) []).2.2=0;·rw[ah h3];have:=ACW N r (p+1) [] h3;exact⟨.txt _ _ (by have:=this.2.2;simp at this;omega),_,rfl,fG,by have:=this.2.1;omega,λ_=>by have:=this.1;omega⟩
   ·rw[ae h3]at he;exact absurd he h3
  rw[ae h2]at he⊢;by_cases h3:(([45]:B8).contains c||DC c)=true
  ·rw[ah h3]at he⊢;by_cases h4:Fz (c::r)=0;·rw[ah h4]at he;cases he
   ·rw[ae h4];have hle:=ALO (c::r);simp only[ag]at hle;have hlen:((c::r).take (Fz (c::r))).length=Fz (c::r):=by rw[bL];simp only[ag];omega
    refine⟨.num _ _ (λe=>h4 (by rw[<-hlen,e];rfl)) (by rw[hlen,AbA]) (by rw[hlen];omega),_,rfl,fG,fG,λ_=>by omega⟩
  rw[ae h3]at he⊢;by_cases h4:isWord ((c::r).takeWhile BS)=true
  ·rw[ah h4];have:=KM BS (c::r);simp only[ag]at this;have hpos:0<((c::r).takeWhile BS).length:=by
    rcases dn ((c::r).takeWhile BS).length with e|e;·rw[cC.1 e]at h4;simp[isWord]at h4
    ·exact e
   exact⟨.wrd _ _ h4,_,rfl,fG,fG,λ_=>by omega⟩
  ·rw[ae h4]at he;cases he
end Go.VM
namespace Go.VM
section
variable{N:Nat}{l:B8}
def Yi (p:Ref14Parser) (i e:Int):Ref14Parser:=if p.fail==0 then Ref14Parser.mk p.s p.at_ p.nodes e i else p
def Lb (p:Ref14Parser) (i e:Int):BC N p i e=some (Yi p i e):=by unfold BC Yi;split<;>rfl
def isQ (t:ApiToken) (c:B8):IR N t c=some (t.kind==2&&t.text==c):=by unfold IR;cases t.kind==2<;>simp
def Ga{p:Ref14Parser} (h:p.fail=0) (i e:Int):Yi p i e=Ref14Parser.mk p.s p.at_ p.nodes e i:=by simp[Yi,h]
def AhX{p:Ref14Parser} (h:p.fail≠0) (i e:Int):Yi p i e=p:=by simp[Yi,h]
def noT:ApiToken:=ApiToken.mk 0 [] 0
def AAZ (N:Nat) (l:B8) (E:Nat) (t:ApiToken) (next:Int) (p:JPsr):Option (ApiValue×Int×Int):=(E9 N p t).bind λq=>if q.2 !=0 then some (GA,t.at_,q.2)else if t.kind==1 then some (q.1.out,l.length,0)else Ob N l E next q.1
def AZY (hb:l.length<=2^40) (hN:l.length+10<=N) (E i:Nat) (hi:i<=l.length) (p:JPsr):Ob N l (E+1) i p=if(Qp N l i).2.2≠0 then some (GA,(i:Int),(Qp N l i).2.2)else AAZ N l E (Qp N l i).1 (Qp N l i).2.1 p:=by
 rw[Ob,AiQ hb hN hi,aa];by_cases h:(Qp N l i).2.2=0;·rw[ae (by simp[h]),ae (by simp[h])];rfl
 ·rw[ah (by simp[h]),ah h]
structure MR (N:Nat) (l:B8) (X:Option (ApiValue×Int×Int)) (S:Int->JPsr) (p:Ref14Parser):Prop where
  s:p.s=l
  lo:0<=p.at_
  hi:p.at_<=l.length
  bad:p.fail≠0->X=some (GA,p.where_,p.fail)
  ok:p.fail=0-> ∃E i:Nat,p.at_=i/\l.length+2<=E+i/\0<=p.nodes/\p.nodes<=20000/\X=Ob N l E i (S p.nodes)
structure TR (N:Nat) (l:B8) (X:Option (ApiValue×Int×Int)) (S:Int->JPsr) (t:ApiToken) (p:Ref14Parser):Prop where
  s:p.s=l
  lo:0<=p.at_
  hi:p.at_<=l.length
  bad:p.fail≠0->X=some (GA,p.where_,p.fail)/\t=noT
  ok:p.fail=0->TK l.length t/\ ∃E i:Nat,p.at_=i/\(t.kind≠1->l.length+2<=E+i)/\0<=p.nodes/\p.nodes<=20000/\X=AAZ N l E t i (S p.nodes)
structure NQ (N:Nat) (l:B8) (X:Option (ApiValue×Int×Int)) (S:Int->JPsr) (p:Ref14Parser) (r:ApiToken×Ref14Parser):Prop where
  tr:TR N l X S r.1 r.2
  le:p.at_<=r.2.at_
  on:r.2.fail=0->p.fail=0/\(r.1.kind≠1->p.at_<r.2.at_)
def WN (hb:l.length<=2^40) (hN:l.length+10<=N){X:Option (ApiValue×Int×Int)}{S:Int->JPsr}{p:Ref14Parser} (h:MR N l X S p):Ok (BB N p) (NQ N l X S p):=by
 unfold BB;by_cases hf:p.fail=0
 ·rw[ae (by simp[hf])];obtain⟨E,i,h1,h2,h3,h4,h5⟩:=h.ok hf;have hi:i<=l.length:=by have:=h.hi;omega
  obtain⟨E,rfl⟩: ∃k,E=k+1:=⟨E-1,fG⟩;rw[AZY hb hN E i hi]at h5;rw[h.s,h1,Aha hb hN hi,AA,aa];dsimp only;by_cases he:(Qp N l i).2.2=0;·rw[ae (by simp[he])];rw[ae (by simp[he])]at h5;obtain⟨k1,j,k2,k3,k4,k5⟩:=AgF hi he;refine Ok.ret ⟨⟨rfl,by simp only[];omega,by simp only[];omega,λhz=>absurd hf hz,λ_=>⟨k1,E,j,k2,λhk=>by have:=k5 hk;omega,h3,h4,?_⟩⟩,by simp only[];omega,λ_=>⟨hf,λhk=>by have:=k5 hk;simp only[];omega⟩⟩;rw[k2]at h5;exact h5
  ·rw[ah (by simp[he]),Lb,aa,Ga hf];rw[ah he]at h5;exact Ok.ret ⟨⟨h.s,h.lo,h.hi,λ_=>⟨h5,rfl⟩,λhz=>absurd hz he⟩,bu _,λhz=>absurd hz he⟩
 ·rw[ah (by simp[hf])];exact Ok.ret ⟨⟨h.s,h.lo,h.hi,λ_=>⟨h.bad hf,rfl⟩,λhz=>absurd hz hf⟩,bu _,λhz=>absurd hz hf⟩
def TR.stop{X:Option (ApiValue×Int×Int)}{S:Int->JPsr}{t:ApiToken}{p:Ref14Parser} (h:TR N l X S t p) (hf:p.fail=0){e:Int} (he:e≠0) (hx: ∀n,0<=n->n<=20000->∃q,E9 N (S n) t=some (q,e)){S':Int->JPsr}:MR N l X S' (Yi p t.at_ e):=by obtain⟨_,E,i,h1,h2,h3,h4,h5⟩:=h.ok hf;rw[Ga hf];refine⟨h.s,h.lo,h.hi,λ_=>?_,λhz=>absurd hz he⟩;obtain⟨q,hq⟩:=hx _ h3 h4;rw[h5,AAZ,hq,aa,ah (by simp[he])]
def TR.dead{X:Option (ApiValue×Int×Int)}{S S':Int->JPsr}{t:ApiToken}{p:Ref14Parser} (h:TR N l X S t p) (hf:p.fail≠0):MR N l X S' p:=⟨h.s,h.lo,h.hi,λ_=>(h.bad hf).1,λhz=>absurd hz hf⟩
def MR.dead{X:Option (ApiValue×Int×Int)}{S S':Int->JPsr}{p:Ref14Parser} (h:MR N l X S p) (hf:p.fail≠0):MR N l X S' p:=⟨h.s,h.lo,h.hi,λ_=>h.bad hf,λhz=>absurd hz hf⟩
def TR.go{X:Option (ApiValue×Int×Int)}{S S':Int->JPsr}{t:ApiToken}{p:Ref14Parser} (h:TR N l X S t p) (hk:p.fail=0->t.kind≠1/\∀n,E9 N (S n) t=some (S' n,0)):MR N l X S' p:=by refine⟨h.s,h.lo,h.hi,λhz=>(h.bad hz).1,λhf=>?_⟩;obtain⟨_,E,i,h1,h2,h3,h4,h5⟩:=h.ok hf;obtain⟨h6,h7⟩:=hk hf;refine⟨E,i,h1,h2 h6,h3,h4,?_⟩;rw[h5,AAZ,h7,aa,ae fH,ae (by simp[h6])]
def Ty (l:B8) (p:Ref14Parser):Nat:=if p.fail=0 then l.length-p.at_.toNat+2 else 1
def VV (p:Ref14Parser):1<=Ty l p:=by unfold Ty;split<;>omega
def ASe (q:Ref14Parser):Ty l q<=l.length+2:=by unfold Ty;split<;>omega
def ABt{p q:Ref14Parser} (hp:0<=p.at_/\p.at_<=l.length) (hf:p.fail=0) (hq:0<=q.at_/\q.at_<=l.length) (h:q.fail=0->p.at_<q.at_):Ty l q+1<=Ty l p:=by
 unfold Ty;rw[ah hf];split;·rename_i e;have:=h e;omega
 ·omega
def inA (st:List ApiValue) (out v:ApiValue) (w:Int) (n:Int):JPsr:=⟨st++[v],w,n,out⟩
def AA9 (st:List ApiValue) (out v:ApiValue) (n:Int):JPsr:=IX ⟨st,0,n,out⟩ v
def AJw (items:List ApiValue):ApiValue:=⟨6,[],[],items⟩
def P7 (keys:List B8) (items:List ApiValue):ApiValue:=⟨7,[],keys,items⟩
def Ahr (st:List ApiValue) (out v x:ApiValue) (n:Int):AA9 (st++[v]) out x n=inA st out {v with items:=v.items++[x]} 5 n:=by simp[AA9,inA,IX]
def WP (v:ApiValue):B8:=if v.kind==7 then [125]else [93]
def ABF (st:List ApiValue) (out v:ApiValue) (w n:Int):J5 (inA st out v w n)=WP v:=by simp[J5,inA,WP]
def AUV (p:JPsr) (w:Int) (v:ApiValue):IX {p with want:=w} v=IX p v:=by unfold IX;rfl
def VQ (N:Nat) (l:B8) (X:Option (ApiValue×Int×Int)) (st:List ApiValue) (out:ApiValue) (p:Ref14Parser) (r:ApiValue×Ref14Parser):Prop:=MR N l X (AA9 st out r.1) r.2/\p.at_<=r.2.at_/\(r.2.fail=0->p.fail=0)
def ADo{n b:Nat} (h:n<=1000000000) (hb:b<=100):BR n b:=by unfold BR;have:n * b<=1000000000 * 100:=eJ h hb;omega
def Qo{p:JPsr}{t:ApiToken} (h:Dj p t=false):E9 N p t=some (p,140):=by unfold E9;rw[ah h]
theorem AcU{st:List ApiValue}{out v:ApiValue}{w n:Int}{p:Int} (hw:w=1\/w=3\/w=5):Dj (inA st out v w n) (ApiToken.mk 2 (WP v) p)=true:=by
 have e:Rm (inA st out v w n) (ApiToken.mk 2 (WP v) p)=true:=by unfold Rm;rw[ABF];simp
 have hw2:(inA st out v w n).want=w:=rfl;unfold Dj;rw[e,hw2];rcases hw with rfl|rfl|rfl<;>simp
def TP{st:List ApiValue}{out v:ApiValue}{w n:Int}{p:Int} (hw:w=1\/w=3\/w=5):E9 N (inA st out v w n) (ApiToken.mk 2 (WP v) p)=some (AA9 st out v n,0):=by
 unfold E9;rw[ae (by rw[AcU hw];decide),ah (show((ApiToken.mk 2 (WP v) p).kind==2)=true from rfl)];have e:(inA st out v w n).stack.getLast?=some v:=by simp[inA]
 have e2:({inA st out v w n with stack:=(inA st out v w n).stack.dropLast}:JPsr)=⟨st,w,n,out⟩:=by simp[inA]
 unfold QQ;rw[e,e2];unfold WP;cases v.kind==7;·exact bg some (bg (·,(0:Int)) (AUV ⟨st,0,n,out⟩ w v))
 ·exact bg some (bg (·,(0:Int)) (AUV ⟨st,0,n,out⟩ w v))
def ADc{st:List ApiValue}{out v:ApiValue}{n:Int}{p:Int}:E9 N (inA st out v 5 n) (ApiToken.mk 2 [44] p)=some (inA st out v (if v.kind==7 then 2 else 0) n,0):=by
 have e:(inA st out v 5 n).stack.getLast?=some v:=by simp[inA]
 have hf:Dj (inA st out v 5 n) (ApiToken.mk 2 [44] p)=true:=by unfold Dj;simp[inA]
 unfold E9;rw[ae (by rw[hf];decide),ah (show((ApiToken.mk 2 [44] p).kind==2)=true from rfl)];unfold QQ;rw[e];rfl
def AVN{st:List ApiValue}{out v:ApiValue}{n:Int}{p:Int}:E9 N (inA st out v 4 n) (ApiToken.mk 2 [58] p)=some (inA st out v 0 n,0):=by
 have hf:Dj (inA st out v 4 n) (ApiToken.mk 2 [58] p)=true:=by unfold Dj;simp[inA]
 unfold E9;rw[ae (by rw[hf];decide),ah (show((ApiToken.mk 2 [58] p).kind==2)=true from rfl)];rfl
theorem Ao3{st:List ApiValue}{out v:ApiValue}{n:Int}{t:ApiToken} (h1:(t.kind==2&&t.text==[44])=false) (h2:(t.kind==2&&t.text==WP v)=false):Dj (inA st out v 5 n) t=false:=by unfold Dj Rm;rw[ABF];have hw2:(inA st out v 5 n).want=5:=rfl;rw[hw2,h1,h2];rfl
theorem AsW{st:List ApiValue}{out v:ApiValue}{n:Int}{t:ApiToken} (h1:(t.kind==2&&t.text==[58])=false):Dj (inA st out v 4 n) t=false:=by unfold Dj;have hw2:(inA st out v 4 n).want=4:=rfl;rw[hw2,h1];rfl
theorem fits1{st:List ApiValue}{out v:ApiValue}{n:Int}{t:ApiToken} (h2:(t.kind==2&&t.text==WP v)=false):Dj (inA st out v 1 n) t=HY t:=by unfold Dj Rm;rw[ABF];have hw2:(inA st out v 1 n).want=1:=rfl;rw[hw2,h2];simp
def AiV{p:JPsr}{t:ApiToken} (h:p.want=0):Dj p t=HY t:=by unfold Dj;simp[h]
theorem Aol{st:List ApiValue}{out v:ApiValue}{w n:Int}{t:ApiToken} (hw:w=2\/w=3) (h2:w=3->(t.kind==2&&t.text==WP v)=false):Dj (inA st out v w n) t=(t.kind==3):=by
 unfold Dj Rm;rw[ABF];have hw2:(inA st out v w n).want=w:=rfl;rw[hw2];rcases hw with rfl|rfl;·simp
 ·rw[h2 rfl];simp
def ARL{st:List ApiValue}{out:ApiValue}{keys:List B8}{items:List ApiValue}{w n:Int}{s:B8}{p:Int} (hw:w=2\/w=3):E9 N (inA st out (P7 keys items) w n) (ApiToken.mk 3 s p)=if s∈keys then some (inA st out (P7 keys items) w n,143)else some (inA st out (P7 (keys++[s]) items) 4 n,0):=by
 have hf:Dj (inA st out (P7 keys items) w n) (ApiToken.mk 3 s p)=true:=by rw[Aol hw (λ_=>rfl)];rfl
 have hw2:((inA st out (P7 keys items) w n).want==2||(inA st out (P7 keys items) w n).want==3)=true:=by rcases hw with rfl|rfl<;>rfl
 have e:(inA st out (P7 keys items) w n).stack.getLast?=some (P7 keys items):=by simp[inA]
 unfold E9;rw[ae (by rw[hf];decide),ae (λh=>absurd (show((3:Int)==2)=true from h) fI),ah hw2];unfold XE;rw[e];dsimp only;by_cases h:s∈keys;·rw[ah h,ah (show s∈(P7 keys items).keys from h)]
 ·rw[ae h,ae (show¬s∈(P7 keys items).keys from h)];simp[inA,P7]
def Vd{st:List ApiValue}{out:ApiValue}{w n:Int}{p:Int} (c:UInt8) (hc:c=91\/c=123) (hf:Dj ⟨st,w,n,out⟩ (ApiToken.mk 2 [c] p)=true):E9 N ⟨st,w,n,out⟩ (ApiToken.mk 2 [c] p)=some (if c=91 then G8 ⟨st,w,n,out⟩ 6 1 else G8 ⟨st,w,n,out⟩ 7 3):=by unfold E9;rw[ae (by rw[hf];decide),ah (show((ApiToken.mk 2 [c] p).kind==2)=true from rfl)];rcases hc with rfl|rfl<;>rfl
def ATR (N:Nat) (t:ApiToken):ApiValue:=if t.kind==4 then⟨4,(ZC N t.text).1,[],[]⟩else if t.kind==5 then⟨TN t.text,[],[],[]⟩else⟨5,t.text,[],[]⟩
def ADB{st:List ApiValue}{out:ApiValue}{w n:Int}{t:ApiToken} (hw:w=0\/w=1) (hf:Dj ⟨st,w,n,out⟩ t=true) (hk:t.kind=3\/t.kind=4\/t.kind=5) (hn:t.kind=4->EE N t.text=some (ZC N t.text)):E9 N ⟨st,w,n,out⟩ t=some (if t.kind=4/\(ZC N t.text).2≠0 then(⟨st,w,n,out⟩,144)else NN ⟨st,w,n,out⟩ (ATR N t)):=by
 have h1:(t.kind==2)=false:=by rcases hk with h|h|h<;>rw[h]<;>rfl
 have h2:(w==2||w==3)=false:=by rcases hw with h|h<;>rw[h]<;>rfl
 have h3:(t.kind==1)=false:=by rcases hk with h|h|h<;>rw[h]<;>rfl
 unfold E9;rw[ae (by rw[hf];decide),ae (by rw[h1];decide)];dsimp only;rw[ae (by rw[h2];decide),ae (by rw[h3];decide)];unfold SS ATR;rcases hk with h|h|h;·rw[h];rfl
 ·rw[hn h,h];simp only[BEq.rfl,av,aa,cS,dQ,dY,ite_not];split<;>rfl
 ·rw[h];rfl
def Aek{st:List ApiValue}{out v:ApiValue}{w n:Int}:NN ⟨st,w,n,out⟩ v=if n+1>20000 then(⟨st,w,n+1,out⟩,142)else(AA9 st out v (n+1),0):=by
 unfold NN;split;·rfl
 ·exact bg (·,(0:Int)) (AUV ⟨st,0,n+1,out⟩ w v)
def AE7{st:List ApiValue}{out:ApiValue}{w n:Int}{kd w':Int} (hl:st.length<64):G8 ⟨st,w,n,out⟩ kd w'=if n+1>20000 then(⟨st,w,n+1,out⟩,142)else(inA st out ⟨kd,[],[],[]⟩ w' (n+1),0):=by unfold G8;rw[ae (by simp only[];omega)];rfl
def TR.count{X:Option (ApiValue×Int×Int)}{S S':Int->JPsr}{t:ApiToken}{p:Ref14Parser} (h:TR N l X S t p) (hf:p.fail=0) (hk:t.kind≠1) (hx: ∀n,0<=n->n<=20000->(n+1>20000->∃q,E9 N (S n) t=some (q,142))/\(¬n+1>20000->E9 N (S n) t=some (S' (n+1),0))):MR N l X S' (if p.nodes+1>20000 then Ref14Parser.mk p.s p.at_ (p.nodes+1) 142 t.at_ else Ref14Parser.mk p.s p.at_ (p.nodes+1) p.fail p.where_):=by
 obtain⟨_,E,i,h1,h2,h3,h4,h5⟩:=h.ok hf;obtain⟨h6,h7⟩:=hx _ h3 h4;by_cases hc:p.nodes+1>20000;·rw[ah hc];obtain⟨q,hq⟩:=h6 hc;refine⟨h.s,h.lo,h.hi,λ_=>?_,λhz=>by cases hz⟩;rw[h5,AAZ,hq,aa,ah fH]
 ·rw[ae hc];refine⟨h.s,h.lo,h.hi,λhz=>absurd hf hz,λ_=>⟨E,i,h1,h2 hk,by simp only[];omega,by simp only[];omega,?_⟩⟩;rw[h5,AAZ,h7 hc,aa,ae fH,ae (by simp[hk])]
end
end Go.VM
