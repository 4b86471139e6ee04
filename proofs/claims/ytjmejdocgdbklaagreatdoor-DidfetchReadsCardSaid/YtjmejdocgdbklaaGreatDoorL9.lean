import Derived.Test.YtjmejdocgdbklaaGreatDoorL8
import Derived.Test.YtjmejdocgdbklaaGreatDoorDefs
set_option linter.defProp false
set_option linter.unusedVariables false
set_option linter.unusedSimpArgs false
namespace Go.VM
section
variable{N:Nat}
def n3B (c:UInt8):Bool:=!([47,63,35]:B8).contains c
theorem Aci{c:UInt8} (h:n3B c=true):c≠47/\c≠63/\c≠35:=by simp_all[n3B]
def AO1 (c:UInt8) (t:B8):AR c (c::t)=([],t,true):=by simp_all[AR]
def AAt{c x:UInt8} (h:x≠c) (t:B8):AR c (x::t)=(x::(AR c t).1,(AR c t).2):=by have:=R6 (c:=c) [x] t (by grind);grind
def Ant (s:B8):AR 35 s=(s.takeWhile n3B++(AR 35 (s.dropWhile n3B)).1,(AR 35 (s.dropWhile n3B)).2)/\AR 63 (AR 35 s).1=(s.takeWhile n3B++(AR 63 (AR 35 (s.dropWhile n3B)).1).1,(AR 63 (AR 35 (s.dropWhile n3B)).1).2):=by
 have hA: ∀x,x∈s.takeWhile n3B->n3B x=true:=λx AQ=>AJt AQ;have e1:AR 35 s=(s.takeWhile n3B++(AR 35 (s.dropWhile n3B)).1,(AR 35 (s.dropWhile n3B)).2):=by grind[List.takeWhile_append_dropWhile,n3B,R6,AQ,Aci]
 grind[R6,AQ,Aci]
def AEx{p:UInt8->Bool}: ∀l:B8,l.dropWhile p=[]\/∃c t,l.dropWhile p=c::t/\p c=false
 |[]=>.inl rfl
 | c::l=>by
  rw[bz];cases h:p c;·simp_all
  ·exact AEx l
def AWA (s:B8):(AR 63 (AR 35 (s.dropWhile n3B)).1).1=[]\/∃t,(AR 63 (AR 35 (s.dropWhile n3B)).1).1=47::t:=by
 rcases AEx (p:=n3B) s with h|⟨c,t,h,hc⟩;·rw[h];exact .inl rfl
 ·rw[h];have:c=47\/c=63\/c=35:=by unfold n3B at hc;simp only[dN,bb,dn,cA,bE,bA]at hc;omega
  rcases this with rfl|rfl|rfl;·rw[AAt fB,AAt fB];simp
  ·rw[AAt fB,AO1];simp
  ·rw[AO1];exact .inl rfl
def Abn (s:B8):(AR 63 (AR 35 s).1).1.takeWhile (· !=(47:UInt8))=s.takeWhile n3B/\(AR 63 (AR 35 s).1).1.dropWhile (· !=(47:UInt8))=(AR 63 (AR 35 (s.dropWhile n3B)).1).1:=by
 rw[(Ant s).2];have hA: ∀x,x∈s.takeWhile n3B->(x !=(47:UInt8))=true:=λx AQ=>by grind[Aci,AJt]
 dsimp only;generalize s.takeWhile n3B=A at *;rcases AWA s with h|⟨t,h⟩
 ·rw [h,bm];have: ∀l:B8,(∀x,x∈l->(x !=(47:UInt8))=true)->l.takeWhile (· !=(47:UInt8))=l/\l.dropWhile (· !=(47:UInt8))=[]:=by intro l;induction l with |nil=>exact λ_=>⟨rfl,rfl⟩| cons c l ih=>intro hl;obtain⟨i1,i2⟩:=ih λx AQ=>hl x (by simp[AQ]);rw[aJ,bz,hl c fA];exact⟨by rw[ah rfl,i1],i2⟩
  grind
 grind[Ab2,List.takeWhile_append_dropWhile,List.append_cancel_left]
def Xl:ApiDIDURL:=⟨NS,[],[],[],false,false⟩
def duS (N:Nat) (d p q f:B8) (hq hf:Bool):ApiDIDURL×Int:=if((I4 d).2 !=0)=true then(Xl,(I4 d).2) else if((Ce N p inP).2 !=0)=true then(Xl,(Ce N p inP).2) else if((Ce N q inQ).2 !=0)=true then(Xl,(Ce N q inQ).2) else if((Ce N f inQ).2 !=0)=true then(Xl,(Ce N f inQ).2) else(⟨(I4 d).1,(Ce N p inP).1,(Ce N q inQ).1,(Ce N f inQ).1,hq,hf⟩,0)
def ZB (N:Nat) (s:B8):ApiDIDURL×Int:=if s.length>4096 then(Xl,5) else duS N (s.takeWhile n3B) (AR 63 (AR 35 (s.dropWhile n3B)).1).1 (AR 63 (AR 35 (s.dropWhile n3B)).1).2.1 (AR 35 (s.dropWhile n3B)).2.1 (AR 63 (AR 35 (s.dropWhile n3B)).1).2.2 (AR 35 (s.dropWhile n3B)).2.2
theorem ApV (l:B8):(l.takeWhile λc=>!([47,63,35]:B8).contains c)=l.takeWhile n3B:=rfl
theorem AVh{p:UInt8->Bool} (l:B8):(l.takeWhile p).length+(l.dropWhile p).length=l.length:=by have:=a8 List.length (aU (p:=p) (l:=l));grind
def Am1{p:UInt8->Bool} (s:B8):sub s 0 (((s.takeWhile p).length:Nat):Int)=some (s.takeWhile p):=by have:=AVh (p:=p) s;rw[show(0:Int)=((0:Nat):Int)from rfl,BB _ 0 _ (bK _) fy,aY,bP,IB]
def AOw (s:B8) (hb:s.length<=1000000) (hN:20000<=N):Pf N s=some (ZB N s):=by
 have hc1:=FP 35 s;have hc2:=FP 63 (AR 35 s).1;unfold Pf ZB;by_cases h:s.length>4096;·rw[ah (by grind),ah h];rfl
 rw[ae (by grind),ae h,Ml 35 _ fy,aa,Ml 63 _ fy,aa];obtain⟨s1,s2⟩:=Abn s;have t:=AVh (p:=n3B) s;have e35:=a8 Prod.snd (Ant s).1;have e63:=a8 Prod.snd (Ant s).2;dsimp only at e35 e63;have c3:=FP 35 (s.dropWhile n3B);have c4:=FP 63 (AR 35 (s.dropWhile n3B)).1;refine(Av (a:=(s.takeWhile n3B,(AR 63 (AR 35 (s.dropWhile n3B)).1).1)) λk=>?_).trans ?_
 ·rw[show(47:Int)=AC 47 from rfl,Ij,aa,ML];generalize hd:(AR 63 (AR 35 s).1).1=d at *;rw[<-s1,<-s2];cases hc:d.contains 47;·have e:=aU (p:=(· !=(47:UInt8))) (l:=d);rw[R3 d hc]at e⊢;simp_all
  ·have hlt:=Mf hc;simp only[av];rw[ah fA,show(0:Int)=((0:Nat):Int)from rfl,BB d 0 _ (bK _) fy,aa,Cf fy,aa,aY,bP,IB,LM]
 ·dsimp only;unfold duS;rw[e35,e63,AAJ _ fy hN,aa];by_cases h1:((I4 (s.takeWhile n3B)).2 !=0)=true;·rw[ah h1,ah h1];rfl
  rw[ae h1,ae h1,IW _ _ hN,aa];change (if((Ce N _ inP).2 !=0)=true then _ else _)=_;by_cases h2:((Ce N (AR 63 (AR 35 (s.dropWhile n3B)).1).1 inP).2 !=0)=true;·rw[ah h2,ah h2];rfl
  rw[ae h2,ae h2,IW _ _ hN,aa];change (if((Ce N _ inQ).2 !=0)=true then _ else _)=_;by_cases h3:((Ce N (AR 63 (AR 35 (s.dropWhile n3B)).1).2.1 inQ).2 !=0)=true;·rw[ah h3,ah h3];rfl
  rw[ae h3,ae h3,IW _ _ hN,aa];change (if((Ce N _ inQ).2 !=0)=true then _ else _)=_;by_cases h4:((Ce N (AR 35 (s.dropWhile n3B)).2.1 inQ).2 !=0)=true;·rw[ah h4,ah h4];rfl
  rw[ae h4,ae h4];rfl
def AMq (s:B8) (hb:s.length<=1000000) (hN:20000<=N):NG N s=some (ZB N s):=by
 unfold NG ZB;by_cases h:s.length>4096;·rw[ah (by grind),ah h];rfl
 have t:=AVh (p:=n3B) s;rw[ae (by grind),ae h,KD _ _ fB fy,aa,ApV,Am1 s,aa,Wl _ fy hN,aa,Cf fy,LM];have c3:=FP 35 (s.dropWhile n3B);have c4:=FP 63 (AR 35 (s.dropWhile n3B)).1;unfold duS;generalize s.dropWhile n3B=x at *;by_cases h1:((I4 (s.takeWhile n3B)).2 !=0)=true;·rw[ah h1,ah h1];rfl
 rw[ae h1,ae h1,aa];refine(Av (a:=AR 35 x) λk=>Aib 35 _ fy k).trans ?_;refine(Av (a:=AR 63 (AR 35 x).1) λk=>Aib 63 _ fy k).trans ?_;rw[Jg _ _ hN fB,aa];change (if((Ce N _ inP).2 !=0)=true then _ else _)=_;by_cases h2:((Ce N (AR 63 (AR 35 x).1).1 inP).2 !=0)=true;·rw[ah h2,ah h2];rfl
 rw[ae h2,ae h2,Jg _ _ hN fB,aa];change (if((Ce N _ inQ).2 !=0)=true then _ else _)=_;by_cases h3:((Ce N (AR 63 (AR 35 x).1).2.1 inQ).2 !=0)=true;·rw[ah h3,ah h3];rfl
 rw[ae h3,ae h3,Jg _ _ hN fB,aa];change (if((Ce N _ inQ).2 !=0)=true then _ else _)=_;by_cases h4:((Ce N (AR 35 x).2.1 inQ).2 !=0)=true;·rw[ah h4,ah h4];rfl
 rw[ae h4,ae h4];rfl
def AP1 (u:ApiDIDURL):B8:=(((Gy u.dID++u.path)++(if u.hasQuery=true then [63]++u.query else []))++(if u.hasFrag=true then [35]++u.fragment else []))
def duB (u:ApiDIDURL) (n:Nat):Prop:=u.dID.method.length<=n/\u.dID.iD.length<=n/\u.path.length<=n/\u.query.length<=n/\u.fragment.length<=n
def Aky (u:ApiDIDURL) (h:duB u 100000):Ph N u=some (AP1 u):=by
 obtain⟨h1,h2,h3,h4,h5⟩:=h;unfold Ph AP1;rw[QK _ ⟨fy,fy⟩,aa];have l0:(Gy u.dID).length<=300000:=by grind[Gy,List.length_append,List.length_cons,List.length_nil]
 generalize Gy u.dID=A at *;rw[BS fy];generalize hC:(if u.hasQuery=true then [63]++u.query else [])=C;have lC:C.length<=1000001:=by grind
 refine(Av (a:=(A++u.path)++C) λk=>?_).trans ?_
 ·rw[<-hC];split;·rw[BS fC,BS (by simp only[an,ag,ap];omega)]
  ·rw[bm]
 refine(Av (a:=((A++u.path)++C)++(if u.hasFrag=true then [35]++u.fragment else [])) λk=>?_).trans rfl;split;·rw[BS fC,BS (by simp only[an,ag,ap];omega)]
 ·rw[bm]
def Akm (u:ApiDIDURL) (h:duB u 100000):Na N u=some (AP1 u):=by
 obtain⟨h1,h2,h3,h4,h5⟩:=h;unfold Na AP1;rw[QM _ ⟨fy,fy⟩,aa];have l0:(Gy u.dID).length<=300000:=by grind[Gy,List.length_append,List.length_cons,List.length_nil]
 generalize Gy u.dID=A at *;rw[BS fy];generalize hC:(if u.hasQuery=true then [63]++u.query else [])=C;have lC:C.length<=1000001:=by grind
 refine(Av (a:=(A++u.path)++C) λk=>?_).trans ?_
 ·rw[<-hC];split;·rw[BS fC,BS (by simp only[an,ag,ap];omega)]
  ·rw[bm]
 refine(Av (a:=((A++u.path)++C)++(if u.hasFrag=true then [35]++u.fragment else [])) λk=>?_).trans rfl;split;·rw[BS fC,BS (by simp only[an,ag,ap];omega)]
 ·rw[bm]
def AlW:B8->Bool |[]=>true|c::_=>([47,63,35]:B8).contains c
def Zk (N:Nat) (d:ApiDID) (r:B8):ApiDIDURL×Int:=if preB [100,105,100,58] r=true then ZB N r else if AlW r=true then ZB N (Gy d++r) else(Xl,6)
def AgO (d:ApiDID) (r:B8) (hd:d.method.length<=100000/\d.iD.length<=100000) (hr:r.length<=100000) (hN:20000<=N):O1 N d r=some (Zk N d r):=by
 unfold O1 Zk;rw[XD,aa];by_cases h:preB [100,105,100,58] r=true;·rw[ah h,ah h,AOw _ fy hN];rfl
 rw[ae h,ae h];have l0:(Gy d).length<=300000:=by grind[Gy,List.length_append,List.length_cons,List.length_nil]
 refine(Av (a:=AlW r) λk=>?_).trans ?_;·cases r with |nil=>rfl| cons c t=>rw[ae fA,show idx (c::t) 0=some c from rfl,aa,Ij,aa,Jc];rfl
 ·split;·rw[QK _ ⟨fy,fy⟩,aa,BS fy,AOw _ (by rw[an];omega) hN];rfl
  ·rfl
def Afy (d:ApiDID) (r:B8) (hd:d.method.length<=100000/\d.iD.length<=100000) (hr:r.length<=100000) (hN:20000<=N):MW N d r=some (Zk N d r):=by
 unfold MW Zk;rw[SA,aa];by_cases h:preB [100,105,100,58] r=true;·rw[ah h,ah h,AMq _ fy hN];rfl
 rw[ae h,ae h];have l0:(Gy d).length<=300000:=by grind[Gy,List.length_append,List.length_cons,List.length_nil]
 refine(Av (a:=!AlW r) λk=>?_).trans ?_;·cases r with |nil=>rfl| cons c t=>rw[ae fA,show idx (c::t) 0=some c from rfl,aa,N7 _ _ fB,aa];rfl
 ·cases AlW r;·rfl
  ·rw[ae fB,ah rfl,QM _ ⟨fy,fy⟩,aa,BS fy,AMq _ (by grind) hN];rfl
theorem AlL (s:B8):duB (ZB N s).1 12288:=by
 have z:duB Xl 12288:=by grind[duB,Xl,NS]
 grind[ZB,AVh,n3B,FP,AR,QI,KY,inP,inQ,duS,duB]
def AD7 (d:ApiDID) (r:B8):duB (Zk N d r).1 12288:=by grind[Zk,AlL,duB,Xl,NS]
end
end Go.VM
namespace Go.VM
section
variable{N:Nat}
def AVc (a:Int) (k2:Unit->Option Bool) (h:k2 ()=some false): ∀l:B8,Gj N a k2 l=some (l.any λc=>AC c==a) |[]=>by grind[Gj]| x::l=>by rw[Gj,AVc a k2 h l,bT];cases AC x==a<;>rfl
theorem AE0 (a:Int) (l:B8) (h:l.length<=1000):E8 N a l=some (l.any λc=>AC c==a):=by unfold E8;rw[AA,BS fy];exact AVc a _ rfl l
def digit_eq (a:Int):Bh N a=some (decide (a>=48)&&decide (a<=57)):=by unfold Bh;by_cases h:a>=48<;>simp[h]
def Apn (c:UInt8):Bool:=decide (AC c>=48)&&decide (AC c<=57)
def runN (l:B8):Nat:=(l.takeWhile Apn).length
theorem Aik (l:B8):runN l<=l.length:=(da _).length_le
def AOt (l:B8) (k2:Int->Option Int) (hb:l.length<=1000000): ∀(suf pre:B8) (k:Nat),l=pre++suf->suf.length<k->FY N l k2 k (pre.length:Int)=k2 ((pre.length+runN suf:Nat):Int)
 | [],pre,k+1,h,_=>by
  rw[FY,AA];have:decide ((pre.length:Int)<(l.length:Int))=false:=by grind
  simp_all[runN]
 | x::suf,pre,k+1,h,hk=>by
  simp only[ag]at hk;have hl:pre.length<l.length:=by grind
  rw[FY,AA,AcJ h,ah rfl,ACD h,aa,digit_eq,aa];cases hd:Apn x;·have:(decide (AC x>=48)&&decide (AC x<=57))=false:=hd;rw[this];simp[runN,hd]
  ·have:(decide (AC x>=48)&&decide (AC x<=57))=true:=hd;rw[this];simp only[av];rw[AO fy,Rj pre x,AOt l k2 hb suf (pre++[x]) k (by grind) fy];simp only[runN,aJ,hd,av,ag,an,ap];grind
def AoT (l:B8) (hN:l.length<N) (hb:l.length<=1000000):J4 N l=some (runN l:Int):=by unfold J4;rw[AA];have:=AOt (N:=N) l (λj=>some j) hb l [] N rfl hN;grind
def AKZ (l:B8) (i:Int) (h:0<=i):Ok (KS N l i) (λx=>x=l.drop i.toNat):=by
 unfold KS;refine Ok.ite (λhc=>Ok.ret ?_) (λhc=>Ok.bind (Ok.sub h (by grind) (br _)) λx hx=>Ok.ret ?_);·simp_all
 grind[List.take_of_length_le]
def AUY (l:B8) (hN:l.length<N) (hb:l.length<=1000000):Ok (J4 N l) (λn=>n=(runN l:Int)/\0<=n/\n<=l.length):=by refine⟨_,AoT l hN hb,rfl,fy,?_⟩;grind[Aik]
theorem AA0 (l:B8) (hN:l.length<N) (hb:l.length<=1000000):Ok (IY N l) (λn=>0<=n/\n<=l.length):=by
 unfold IY;have dl: ∀i:Nat,(l.drop i).length<=l.length:=λi=>by simp
 refine Ok.meet (λj1:Int=>0<=j1/\j1<=1/\j1<=l.length) (λj1 h1=>?_) (λk2 h2=>?_)
 ·refine Ok.meet (λj10:Bool=>j10=false->j1<l.length) (λj10 h10=>?_) (λk11 h11=>?_)
  ·refine Ok.ite (λ_=>Ok.ret fy) (λhf=>?_);have hj:=h10 hf;refine Ok.meet (λj17:Int=>0<=j17/\j17<=l.length) (λj17 h17=>?_) (λk18 h18=>?_)
   ·refine Ok.meet (λj25:Int=>0<=j25/\j25<=l.length) (λj25 h25=>?_) (λk26 h26=>?_)
    ·refine Ok.meet (λj38:Int=>0<=j38/\j38<=l.length) (λj38 h38=>Ok.ret h38) (λk39 h39=>?_);refine Ok.meet (λj42:Bool=>j42=true->j25<l.length) (λj42 h42=>?_) (λk43 h43=>?_)
     ·refine Ok.ite (λht=>?_) (λ_=>h39 _ h25);have hlt:=h42 ht;refine Ok.meet (λj49:Int=>0<=j49/\j49<=l.length) (λj49 h49=>?_) (λk50 h50=>?_)
      ·refine Ok.bind (AKZ l j49 h49.1) λy60 h60=>?_;have hl:y60.length=l.length-j49.toNat:=by grind
       refine Ok.bind (AUY y60 fy fy) λy62 h62=>?_;refine Ok.ite (λ_=>h39 _ ?_) (λ_=>h39 _ h25);grind[AO]
      ·refine Ok.meet (λj53:Bool=>j53=true->j25+1<l.length) (λj53 h53=>?_) (λk54 h54=>?_);·rw[AO (n:=j25+1) fy,AO (n:=j25+1+1) fy];exact Ok.ite (λht=>h50 _ (by grind)) (λ_=>h50 _ fy)
       ·rw[AO (n:=j25+1) fy];refine Ok.ite (λhc=>?_) (λ_=>h54 _ fA);simp only[aq]at hc;refine Ok.bind (Ok.idx fy hc) λx57 _=>?_;rw[AE0 _ _ fA,aa];exact h54 _ (λ_=>hc)
     ·refine Ok.ite (λhc=>?_) (λ_=>h43 _ fA);simp only[aq]at hc;refine Ok.bind (Ok.idx h25.1 hc) λx46 _=>?_;rw[AE0 _ _ fA,aa];exact h43 _ (λ_=>hc)
    ·rw[AO (n:=j17+1) fy];refine Ok.bind (AKZ l (j17+1) fy) λy29 h29=>?_;have hl:y29.length=l.length-(j17+1).toNat:=by grind
     refine Ok.bind (AUY y29 fy fy) λy31 h31=>?_;refine Ok.meet (λj33:Bool=>j33=true->j17<l.length) (λj33 h33=>?_) (λk34 h34=>?_);·rw[AO (n:=1+y31) fy,AO (n:=j17+(1+y31)) fy];refine Ok.ite (λht=>h26 _ ?_) (λ_=>h26 _ h17);grind
     ·refine Ok.ite (λhc=>?_) (λ_=>h34 _ fA);simp only[aq]at hc;refine Ok.bind (Ok.idx h17.1 hc) λx37 _=>?_;exact Ok.ite (λ_=>h34 _ (λ_=>hc)) (λ_=>h34 _ fA)
   ·refine Ok.bind (Ok.idx h1.1 hj) λx21 _=>?_;refine Ok.ite (λ_=>?_) (λ_=>?_);·grind[AO]
    ·refine Ok.bind (Ok.sub h1.1 h1.2.2 (br _)) λx22 h22=>?_;have hl:=h22.2;refine Ok.bind (AUY x22 fy fy) λy23 h23=>?_;grind[AO]
  ·refine Ok.ite (λ_=>h11 _ fA) (λhc=>?_);have hj:j1<l.length:=by
    have:j1≠l.length:=by simpa using hc
    omega
   refine Ok.bind (Ok.idx h1.1 hj) λx14 _=>?_;rw[digit_eq,aa];exact h11 _ (λ_=>hj)
 ·refine Ok.meet (λj5:Bool=>j5=true->0<l.length) (λj5 h5=>?_) (λk6 h6=>?_);·refine Ok.ite (λht=>h2 _ ?_) (λ_=>h2 _ fy);grind[AO]
  ·refine Ok.ite (λhc=>?_) (λ_=>h6 _ fA);simp only[aq]at hc;grind[Ok.bind,Ok.idx]
def AA4 (set:B8) (hs:set.length<=1000) (k2:Unit->Option Int) (n:Int) (h:k2 ()=some n): ∀(l:B8) (i:Int),0<=i->i+l.length=n->Ok (EE N set k2 l i) (λr=>0<=r/\r<=n) |[],i,hi,hn=>by grind[EE,Ok.ret]| x::l,i,hi,hn=>by simp only[ag]at hn;rw[EE,AE0 _ _ hs,aa];exact Ok.ite (λ_=>Ok.ret fy) (λ_=>AA4 set hs k2 n h l (i+1) fy fy)
def APH (l set:B8) (hs:set.length<=1000) (hb:l.length<=1000000):Ok (BP N l set) (λr=>0<=r/\r<=l.length):=by unfold BP;refine Ok.join (Ok.grd (by grind[AL]) ?_);exact AA4 set hs _ _ rfl l 0 fy fy
def ANc (k19:Int->Option Int) (hk: ∀n,0<=n->n<=1073741824->Ok (k19 n) (λr=> -1073741824<=r/\r<=1073741824)): ∀(l:B8) (n:Int),0<=n->n<=1073741824->Ok (Cj N k19 l n) (λr=> -1073741824<=r/\r<=1073741824)
 |[],n,h0,h1=>by grind[Cj]
 | x::l,n,h0,h1=>by
  rw[Cj];have hw:0<=wr .u8 (AC x-48)/\wr .u8 (AC x-48)<=255:=by grind[wr,IntKind.wrap,IntKind.bits,IntKind.signed]
  rw[AO (n:=n * 10) fy,AO (n:=wr .u8 (AC x-48)) fy,AO (n:=n * 10+wr .u8 (AC x-48)) fy];refine ANc k19 hk l _ ?_ ?_<;>grind
def AMZ (l:B8) (hb:l.length<=1000000):Ok (Iz N l) (λr=> -1073741824<=r/\r<=1073741824):=by
 unfold Iz;have pos: ¬(l==[])=true->(0:Int)<l.length:=λh=>by grind[List.length_pos_iff]
 refine Ok.meet (λ_:Bool=>True) (λj1 _=>?_) (λk2 h2=>?_)
 ·refine Ok.meet (λj6:B8=>j6.length<=l.length) (λj6 h6=>?_) (λk7 h7=>?_);·refine Ok.join (Ok.grd (by grind[AL]) (ANc _ (λn h0 h1=>?_) _ _ fy fy));refine Ok.ite (λ_=>Ok.ret ?_) (λ_=>Ok.ret ⟨fy,fy⟩);grind[AO]
  ·refine Ok.meet (λj10:Bool=>j10=true->(0:Int)<l.length) (λj10 h10=>?_) (λk11 h11=>?_);·refine Ok.ite (λht=>?_) (λ_=>h7 _ (aw _));have:=h10 ht;exact Ok.bind (Ok.sub fy fy (br _)) λx hx=>h7 _ fy
   ·refine Ok.ite (λ_=>h11 _ fA) (λhf=>?_);have:=pos (by simp[hf]);refine Ok.bind (Ok.idx fy this) λx _=>?_;rw[AE0 _ _ fA,aa];exact h11 _ (λ_=>this)
 ·refine Ok.ite (λ_=>h2 _ trivial) (λhf=>?_);exact Ok.bind (Ok.idx fy (pos (by grind))) λx _=>h2 _ trivial
def ZF: ∀(d k n:Nat) (acc:B8),n<10^(d+1)->d<k->n<18446744073709551616->acc.length+d<=1000->Ok (Ei N k (n:Int) acc) (λr=>r.length<=acc.length+d+1)
 |d,0,n,acc,h,hk,hn,ha=>by omega
 | d,k+1,n,acc,h,hk,hn,ha=>by
  have hd:wr .u64 ((n:Int).tdiv 10)=((n / 10:Nat):Int):=by grind[wr,IntKind.wrap,IntKind.bits,IntKind.signed]
  rw[Ei,hd];refine Ok.grd (by grind[AL]) (Ok.ite (λ_=>Ok.ret (by simp<;>omega)) (λhc=>?_));have hc':n / 10≠0:=by grind
  cases d with
  |zero=>omega
  | succ d=>
   refine(ZF d k (n / 10) _ ?_ fy fy (by grind)).mono λr hr=>by grind
   omega
theorem ADz (n:Nat) (h1:n<1000000000000) (hN:20<=N):Ok (HZ N n) (λr=>r.length<=13):=by unfold HZ;exact(ZF 11 N n [] fy fy fy fA).mono λr hr=>by grind
def AEt (k40:Int×B8->Option (B8×Int)) (P:B8×Int->Prop) (L:Nat) (hL:L<=1000000) (hk: ∀(x:Int) (m:B8),-2000000000<=x->x<=2000000000->m.length<=L->Ok (k40 (x,m)) P): ∀(k:Nat) (x:Int) (m:B8),m.length<k->m.length<=L-> -2000000000<=x->x+m.length<=2000000000->(∃c,m.head?=some c/\c≠48)->Ok (Em N k40 k x m) P
 |0,x,m,h,_,_,_,_=>by omega
 | k+1,x,m,h,hm,h0,h1,hc=>by
  obtain⟨c,hc,hne⟩:=hc;have hpos:0<m.length:=by grind
  rw[Em,AO (n:=(m.length:Int)-1) fy];refine Ok.bind (Ok.idx fy fy) λy hy=>?_;refine Ok.ite (λht=>?_) (λ_=>hk x m fy fy hm);refine Ok.bind (Ok.sub fy fy fy) λz hz=>?_;rw[AO (n:=x+1) fy];have hl:=hz.2;have h2:1<m.length:=by
   rcases aS 1 m.length with h|h;·exact h
   ·exfalso;match m,hpos,h,hc,hy with
    | [d],_,_,hc,hy=>
     simp at hc hy;subst hc;subst hy;have:AC d=48:=by grind
     exact hne (by
      have h3:d.toNat=48:=by unfold AC at this;omega
      exact ch.1 (by grind))
  refine AEt k40 P L hL hk k (x+1) z fy fy fy fy ⟨c,?_,hne⟩;rw[hz.1];cases m with |nil=>grind| cons a m=>simp at hc;subst hc;have e:((((a::m).length:Nat):Int)-1).toNat-(0:Int).toNat=m.length:=fA;rw[e];cases m with |nil=>grind|cons b m=>simp
theorem ACK (k29:B8->Option (B8×Int)) (B:Nat) (P:B8×Int->Prop) (hk: ∀m:B8,m.length<=B->(m=[]\/∃c,m.head?=some c/\c≠48)->Ok (k29 m) P): ∀(k:Nat) (m:B8),m.length<k->m.length<=B->Ok (EB N k29 k m) P
 |0,m,h,_=>by omega
 | k+1,m,h,hb=>by
  rw[EB,AA];cases m with
  | nil=>have:decide ((([]:B8).length:Int)>0)=false:=fA;simp_all
  | cons a m=>
   simp only[ag]at h hb;have h1:decide (((a::m).length:Int)>0)=true:=by simp<;>omega
   have h2:idx (a::m) 0=some a:=by simp[idx]
   rw[h1,ah rfl,h2,aa];refine Ok.ite (λht=>?_) (λhf=>hk _ fy (.inr ⟨a,rfl,λe=>?_⟩));·exact Ok.bind (Ok.sub fy (by grind) (br _)) λx hx=>ACK k29 B P hk k x (by grind) (by grind)
   simp_all[AC]
def AX5 (l:B8) (hN:l.length+30<N) (hb:l.length<=100000):Ok (JP N l) (λr=>r.1.length<=2 * l.length+100):=by
 unfold JP;refine Ok.meet (λj1:Bool=>j1=false->0<l.length) (λj1 h1=>?_) (λk2 h2=>?_)
 ·refine Ok.ite (λ_=>Ok.ret fA) (λhf=>?_);have hpos:=h1 hf;refine Ok.meet (λj:B8×B8=>j.1.length<=l.length/\j.2.length<=1) (λj hj=>?_) (λk8 h8=>?_)
  ·refine Ok.bind (APH j.1 _ fA fy) λy13 h13=>?_;rw[AO (n:=y13+1) fy];refine Ok.bind (AKZ j.1 (y13+1) fy) λy15 h15=>?_;have hl15:y15.length<=j.1.length:=by grind
   refine Ok.bind (AMZ y15 fy) λy17 h17=>?_;refine Ok.bind (Ok.sub fy h13.1 h13.2) λx19 h19=>?_;have hl19:=h19.2;refine Ok.meet (λj20:Int×B8=> -1100000000<=j20.1/\j20.1<=1100000000/\j20.2.length<=l.length) (λj20 hj20=>?_) (λk21 h21=>?_)
   ·refine Ok.meet (λm:B8=>m.length<=l.length/\(m=[]\/∃c,m.head?=some c/\c≠48)) (λm hm=>?_) (λk29 h29=>?_)
    ·refine Ok.ite (λ_=>Ok.ret fA) (λhne=>?_);refine Ok.meet (λp:Int×B8=>p.2.length<=l.length) (λp hp=>?_) (λk40 h40=>?_)
     ·refine Ok.meet (λb:Bool=>b=false-> -400<=p.1/\p.1<=400) (λb hb'=>?_) (λk47 h47=>?_)
      ·refine Ok.ite (λ_=>Ok.ret fA) (λhf=>?_);have hx:=hb' hf;refine Ok.ite (λhlt=>?_) (λ_=>Ok.ite (λhgt=>?_) (λ_=>Ok.grd (by grind[AL]) (Ok.ret (by grind))));·simp only[aq]at hlt;obtain⟨n,hn⟩: ∃n:Nat,0-p.1=n:=⟨(0-p.1).toNat,fy⟩;grind[wr,AO,IntKind.wrap,IntKind.bits,IntKind.signed,Ok.grd,AL,Ok.bind,ADz,Ok.ret]
       ·simp only[aq]at hgt;obtain⟨n,hn⟩: ∃n:Nat,p.1=n:=⟨p.1.toNat,fy⟩;have e:wr .u64 p.1=(n:Int):=by grind[wr,IntKind.wrap,IntKind.bits,IntKind.signed]
        grind[Ok.grd,AL,Ok.bind,ADz,Ok.ret]
      ·refine Ok.ite (λ_=>h47 _ fA) (λ_=>Ok.ite (λ_=>h47 _ fA) (λh4=>h47 _ (λh5=>?_)));grind
     ·rcases hm.2 with hm2|hm2;·grind
      ·exact AEt k40 _ l.length fy (λx m' _ _ h=>h40 _ h) N j20.1 m fy hm.1 fy fy hm2
    grind[ACK]
   ·refine Ok.bind (APH x19 _ fA fy) λy24 h24=>?_;refine Ok.ite (λhc=>?_) (λ_=>h21 _ ⟨fy,fy,by grind⟩);simp only[aq]at hc;refine Ok.bind (Ok.sub fy h24.1 h24.2) λx26 h26=>?_;rw[AO (n:=y24+1) fy,AO (n:=(x19.length:Int)-y24) fy,AO (n:=(x19.length:Int)-y24-1) fy,AO (n:=y17-((x19.length:Int)-y24-1)) fy];refine Ok.bind (Ok.sub fy fy (br _)) λx27 h27=>?_;have a1:=h26.2;have a2:=h27.2;exact Ok.grd (by grind[AL]) (h21 _ ⟨fy,fy,by grind⟩)
  ·refine Ok.bind (Ok.idx fy fy) λx11 _=>?_;refine Ok.ite (λ_=>?_) (λ_=>h8 _ ⟨aw _,fA⟩);exact Ok.bind (Ok.sub fy fy (br _)) λx12 h12=>h8 _ ⟨by grind,fA⟩
 ·refine Ok.ite (λ_=>h2 _ fA) (λhf=>?_);grind[List.length_pos_iff,Ok.bind,AA0]
end
end Go.VM
namespace Go.VM
section
variable{N:Nat}
def AlC (a:Int):Ok (Ie N a) (λ_=>True):=by unfold Ie;rw[digit_eq,aa];refine Ok.ite (λ_=>Ok.ret trivial) (λ_=>?_);refine Ok.ite (λ_=>Ok.ite (λ_=>Ok.ret trivial) (λ_=>?_)) (λ_=>?_)<;>exact Ok.ite (λ_=>Ok.ret trivial) (λ_=>Ok.ret trivial)
def AE3 (k2:Unit->Option (Int×Int)) (h:Ok (k2 ()) (λ_=>True)): ∀l:B8,Ok (Co N 16 k2 l) (λ_=>True) |[]=>by grind[Co]| x::l=>by rw[Co];refine Ok.meet (λ_:Bool=>True) (λj _=>Ok.ite (λ_=>Ok.ret trivial) (λ_=>AE3 k2 h l)) (λk7 h7=>?_);refine Ok.ite (λhc=>by grind) (λ_=>Ok.ite (λ_=>Ok.bind (AlC _) λy _=>h7 _ trivial) (λ_=>h7 _ trivial))
def AD1 (k17:Int->Option (Int×Int)) (h: ∀n,Ok (k17 n) (λ_=>True)) (m:Int): ∀(l:B8) (n:Int),Ok (Bd N 16 m k17 l n) (λ_=>True) |[],n=>by grind[Bd]| x::l,n=>by rw[Bd];refine Ok.meet (λ_:Int=>True) (λj _=>?_) (λk22 h22=>Ok.ite (λ_=>h22 _ trivial) (λ_=>h22 _ trivial));refine Ok.meet (λ_:Bool=>True) (λb _=>Ok.ite (λ_=>Ok.ret trivial) (λ_=>AD1 k17 h m l _)) (λk26 h26=>?_);exact Ok.grd fB (Ok.ite (λ_=>h26 _ trivial) (λ_=>Ok.ite (λ_=>h26 _ trivial) (λ_=>h26 _ trivial)))
theorem AmW (l:B8) (m:Int) (hb:l.length<=1000):Ok (Ny N l m) (λ_=>True):=by unfold Ny KJ;refine Ok.bind (Q:=λ_=>True) (Ok.ite (λ_=>Ok.ret trivial) (λ_=>Ok.join (Ok.grd (by grind[AL]) (AE3 _ (Ok.join (Ok.grd (by grind[AL]) (AD1 _ (λn=>Ok.ret trivial) m l 0))) l)))) λy _=>Ok.ret trivial
def AVC (l:B8) (i:Int) (h0:0<=i) (h1:i<=2000000) (hb:l.length<=1000000):Ok (Ji N l i) (λr=>r.2=true->i+6<=l.length):=by
 unfold Ji;refine Ok.meet (λj:Bool=>j=false->i+6<=l.length) (λj hj=>?_) (λk2 h2=>?_);·refine Ok.ite (λ_=>Ok.ret fA) (λhf=>?_);grind[AO,Ok.bind,Ok.sub,AmW,Ok.ret]
 ·rw[AO (n:=i+6) fy,AO (n:=i+1) fy];refine Ok.ite (λ_=>h2 _ fA) (λhc=>?_);simp only[eR]at hc;refine Ok.bind (Ok.idx h0 fy) λx _=>Ok.ite (λ_=>h2 _ (λ_=>by omega)) (λ_=>?_);grind[Ok.bind,Ok.idx]
theorem Yn (n:Int):Ok (IU N n) (λr=>r.1.length<=4):=by
 unfold IU;refine Ok.bind (Q:=λ_=>True) ?_ λy _=>?_;·unfold M7;refine Ok.ite (λ_=>Ok.ite (λ_=>Ok.ite (λ_=>Ok.ret trivial) (λ_=>Ok.ret trivial)) (λ_=>Ok.ret trivial)) (λ_=>Ok.ret trivial)
 ·refine Ok.ite (λ_=>Ok.ite (λ_=>Ok.ret fA) (λ_=>Ok.ite (λ_=>Ok.letL (Ok.ret fA)) (λ_=>Ok.ite (λ_=>Ok.letL (Ok.ret fA)) (λ_=>Ok.letL (Ok.ret fA))))) (λ_=>Ok.ret fA)
def AfO: ∀j:Nat,j<8->(Dv [34,92,47,98,102,110,114,116] j).2=1:=by intro j h;match j,h with |0,_=>rfl|1,_=>rfl|2,_=>rfl|3,_=>rfl|4,_=>rfl|5,_=>rfl|6,_=>rfl|7,_=>rfl
def ZY (l:B8) (i:Int) (h0:0<=i) (h1:i+1<l.length) (hb:l.length<=1000000) (P:B8×Int×Int->Prop) (hP: ∀x:B8,x.length<=4->P (x,i+2,0)) (k2:Unit->Option (B8×Int×Int)) (hk:Ok (k2 ()) P):∀(k j:Nat),j<=8->8<k+j->Ok (Cz N l i k2 k j) P |0,j,hj,h=>by omega| k+1,j,hj,h=>by rw[Cz];refine Ok.ite (λhc=>?_) (λ_=>hk);simp only[aq]at hc;rw[AfO j hc,AO (n:=i+1) fy,AO (n:=(j:Int)+1) fy,AO (n:=i+2) fy];refine Ok.bind (Ok.idx fy (by grind)) λx _=>Ok.bind (Ok.idx fy h1) λy _=>?_;refine Ok.ite (λ_=>?_) (λ_=>ZY l i h0 h1 hb P hP k2 hk k (j+1) fy fy);exact Ok.bind (Ok.sub fy fy (by grind)) λz hz=>Ok.ret (hP z fy)
def AaQ (l:B8) (i:Int) (h0:0<=i) (h1:i<l.length) (hb:l.length<=1000000) (hN:10<=N):Ok (KQ N l i) (λr=>r.2.2=0->r.1.length<=4/\i<r.2.1/\r.2.1<=l.length):=by
 unfold KQ;refine Ok.meet (λ_:Unit=>True) (λ_ _=>?_) (λk2 h2=>?_)
 ·refine Ok.bind (AVC l i h0 fy hb) λy9 h9=>Ok.ite (λht=>?_) (λ_=>Ok.ret fA);have h6:=h9 ht;rw[AO (n:=i+6) fy,AO (n:=i+12) fy];refine Ok.meet (λ_:Bool=>True) (λj _=>Ok.ite (λ_=>Ok.bind (Yn _) λy h=>Ok.ret (λ_=>⟨h,by grind,fy⟩)) (λ_=>?_)) (λk12 h12=>Ok.ite (λ_=>h12 _ trivial) (λ_=>h12 _ trivial));refine Ok.bind (AVC l (i+6) fy fy hb) λy17 h17=>?_;refine Ok.meet (λj:Bool=>j=false->y17.2=true) (λj hj=>Ok.ite (λ_=>Ok.ret fA) (λhf=>?_)) (λk20 h20=>?_);·grind[Ok.bind,Yn,Ok.ret]
  ·refine Ok.ite (λ_=>h20 _ fA) (λ_=>Ok.ite (λh=>Ok.ite (λ_=>h20 _ fA) (λ_=>h20 _ (λ_=>h))) (λ_=>h20 _ fA))
 ·rw[AO (n:=i+1) fy];refine Ok.ite (λhc=>?_) (λ_=>h2 _ trivial);simp only[aq]at hc;exact ZY l i h0 hc hb _ (λx hx=>λ_=>⟨hx,by grind,by grind⟩) k2 (h2 _ trivial) N 0 fy fy
def ABO (l:B8) (k4:Int->Option Int) (h: ∀n,Ok (k4 n) (λ_=>True)): ∀(k:Nat) (i n:Int),0<=i->i+k<=l.length->Ok (Cs N l k4 k i n) (λ_=>True) |0,i,n,_,_=>by grind[Cs]| k+1,i,n,h0,h1=>by rw[Cs];exact Ok.bind (Ok.idx h0 fy) λx _=>ABO l k4 h k (i+1) _ fy fy
def AfC (l:B8) (h0:0<l.length) (h1:l.length<=4):Ok (Ic N l) (λ_=>True):=by unfold Ic;refine Ok.ite (λ_=>Ok.bind (Ok.idx fy fy) λx _=>Ok.ret trivial) (λ_=>?_);refine Ok.bind (Ok.idx fy fy) λx _=>?_;rw[AO (n:=7-(l.length:Int)) fy];exact Ok.grd fy (Ok.join (Ok.grd fy (ABO l _ (λn=>Ok.ret trivial) _ _ _ fy fy)))
theorem AM6 (l:B8) (i:Int) (h0:0<=i) (hi:i<l.length) (hb:l.length<=1000000) (k6:Unit->Option (Int×Int×Int)) (hk:Ok (k6 ()) (λr=>r.2.2=0->i<r.2.1/\r.2.1<=i+4/\r.2.1<=l.length)): ∀(k:Nat) (j:Int),1<=j->j<=5->5<k+j->Ok (Cx N l i k6 k j) (λr=>r.2.2=0->i<r.2.1/\r.2.1<=i+4/\r.2.1<=l.length)
 |0,j,_,_,h=>by omega
 | k+1,j,h1,h5,h=>by
  rw[Cx];rw[AO (n:=i+j) fy,AO (n:=j+1) fy];refine Ok.meet (λb:Bool=>b=true->j<=4/\i+j<=l.length) (λb hb'=>?_) (λk11 h11=>?_);·refine Ok.ite (λht=>?_) (λ_=>hk);obtain⟨e1,e2⟩:=hb' ht;refine Ok.bind (Ok.sub h0 fy e2) λx hx=>?_;have hl:=hx.2;refine Ok.bind (AfC x fy fy) λy _=>Ok.bind (Yn y) λz _=>?_;refine Ok.meet (λ_:Bool=>True) (λb _=>Ok.ite (λ_=>Ok.ret (λ_=>⟨by grind,by grind,fy⟩)) (λ_=>AM6 l i h0 hi hb k6 hk k (j+1) fy fy fy)) (λk20 h20=>Ok.ite (λ_=>h20 _ trivial) (λ_=>h20 _ trivial))
  ·refine Ok.ite (λhc=>h11 _ (λht=>?_)) (λ_=>h11 _ fA);simp_all
def AZH (l:B8) (i:Int) (h0:0<=i) (h1:i<l.length) (hb:l.length<=1000000) (hN:10<=N):Ok (KV N l i) (λr=>r.2.2=0->i<r.2.1/\r.2.1<=i+4/\r.2.1<=l.length):=by
 unfold KV;refine Ok.join (Ok.ite (λhc=>?_) (λ_=>Ok.ite (λhc=>?_) (λ_=>?_)));·simp only[aq]at hc;omega
 ·simp only[aq]at hc;omega
 grind[Ok.join,AM6,Ok.ret]
def Y0 (l:B8) (hb:l.length<=1000000) (hN:10<=N) (i0:Int) (k2:Unit->Option (B8×Int×Int)) (hk:Ok (k2 ()) (λr=>r.2.2=0->i0<r.2.1/\r.2.1<=l.length/\r.1.length<=4 * l.length)): ∀(k:Nat) (s:B8) (i:Int),0<=i->i0<i->i<=l.length->(l.length:Int)<k+i->(s.length:Int)<=4 * i->Ok (Eh N l k2 k s i) (λr=>r.2.2=0->i0<r.2.1/\r.2.1<=l.length/\r.1.length<=4 * l.length)
 |0,s,i,_,_,_,h,_=>by omega
 | k+1,s,i,h0,hi,h1,h,hs=>by
  rw[Eh];refine Ok.ite (λhc=>?_) (λ_=>hk);simp only[aq]at hc;refine Ok.bind (Ok.idx h0 hc) λx _=>?_;rw[AO (n:=i+1) fy];refine Ok.ite (λ_=>Ok.ret (λ_=>⟨by grind,by grind,by grind⟩)) (λ_=>Ok.ite (λ_=>?_) (λ_=>Ok.ite (λ_=>Ok.ret fA) (λ_=>?_)));·refine Ok.bind (AaQ l i h0 hc hb hN) λy hy=>Ok.ite (λhf=>Ok.ret (λe=>by grind)) (λhf=>?_);obtain⟨a1,a2,a3⟩:=hy (by grind);exact Ok.grd (by grind[AL]) (Y0 l hb hN i0 k2 hk k _ _ fy fy a3 fy (by grind))
  ·refine Ok.bind (AZH l i h0 hc hb hN) λy hy=>Ok.ite (λhf=>Ok.ret (λe=>by grind)) (λhf=>?_);obtain⟨a1,a2,a3⟩:=hy (by grind);refine Ok.bind (Ok.sub h0 fy a3) λz hz=>?_;have hl:=hz.2;exact Ok.grd (by grind[AL]) (Y0 l hb hN i0 k2 hk k _ _ fy fy a3 fy (by grind))
def Akb (l:B8) (i:Int) (h0:0<=i) (h1:i<l.length) (hb:l.length<=1000000) (hN:l.length+10<=N):Ok (Mm N l i) (λr=>r.2.2=0->i<r.2.1/\r.2.1<=l.length/\r.1.length<=4 * l.length):=by unfold Mm;rw[AO (n:=i+1) fy];exact Ok.join (Y0 l hb fy i _ (Ok.ret fA) N [] (i+1) fy fy fy fy (by grind))
theorem AfR (a:Int):Ok (EG N a) (λ_=>True):=by unfold EG;refine Ok.ite (λ_=>Ok.ite (λ_=>Ok.ret trivial) (λ_=>?_)) (λ_=>?_)<;>exact Ok.ite (λ_=>Ok.ret trivial) (λ_=>Ok.ret trivial)
def ABS (l:B8) (hb:l.length<=1000000) (P:ApiToken×Int×Int->Prop) (j:Int) (hj:0<=j) (k34:Int->Option (ApiToken×Int×Int)) (hk: ∀n,0<=n->j+n<=l.length->Ok (k34 n) P): ∀(k:Nat) (n:Int),0<=n->j+n<=l.length->(l.length:Int)<k+j+n->Ok (FM N l j k34 k n) P |0,n,_,_,h=>by omega| k+1,n,h0,h1,h=>by rw[FM,AO (n:=n+1) fy,AO (n:=j+n) fy];refine Ok.meet (λb:Bool=>b=true->j+n<l.length) (λb hb'=>Ok.ite (λht=>ABS l hb P j hj k34 hk k (n+1) fy (by grind) fy) (λ_=>hk n h0 h1)) (λk39 h39=>?_);refine Ok.ite (λhc=>?_) (λ_=>h39 _ fA);simp only[aq]at hc;grind[Ok.bind,Ok.idx,AfR]
def ACH (l:B8) (hb:l.length<=1000000) (P:ApiToken×Int×Int->Prop) (i0:Int) (k6:Int->Option (ApiToken×Int×Int)) (hk: ∀i,i0<=i->i<=l.length->Ok (k6 i) P): ∀(k:Nat) (i:Int),0<=i->i0<=i->i<=l.length->(l.length:Int)<k+i->Ok (FK N l k6 k i) P |0,i,_,_,_,h=>by omega| k+1,i,h0,hi,h1,h=>by rw[FK,AO (n:=i+1) fy];refine Ok.meet (λb:Bool=>b=true->i<l.length) (λb hb'=>Ok.ite (λht=>ACH l hb P i0 k6 hk k (i+1) fy fy (by grind) fy) (λ_=>hk i hi h1)) (λk11 h11=>?_);refine Ok.ite (λhc=>?_) (λ_=>h11 _ fA);simp only[aq]at hc;refine Ok.bind (Ok.idx h0 hc) λx _=>?_;grind[NA,AE0]
structure TokOK (l:B8) (i:Int) (r:ApiToken×Int×Int):Prop where
  good:r.2.2=0->i<=r.2.1/\r.2.1<=l.length/\r.1.text.length<=4 * l.length/\(r.1.kind≠1->i<r.2.1)
  bad:r.2.2≠0->r.1=ApiToken.mk 0 [] 0
def AjL (l:B8) (i:Int) (h0:0<=i) (h1:i<=l.length) (hb:l.length<=1000000) (hN:l.length+10<=N):Ok (Mg N l i) (TokOK l i):=by
 unfold Mg;refine Ok.join (Ok.ite (λhc=>?_) (λ_=>Ok.ite (λhc=>?_) (λ_=>?_)));·simp only[aq]at hc;omega
 ·simp only[aq]at hc;omega
 ·have err: ∀e:Int,TokOK l i (ApiToken.mk 0 [] 0,0,e)->True:=λ_ _=>trivial;refine Ok.meet (λj:Int=>i<=j/\j<=l.length) (λj hj=>?_) (λk6 h6=>ACH l hb _ i k6 (λj a b=>h6 j ⟨a,b⟩) N i h0 (br _) h1 fy);refine Ok.ite (λ_=>Ok.ret ⟨λ_=>⟨by grind,by grind,fA,fA⟩,fA⟩) (λhne=>?_);have hlt:j<l.length:=by grind
  rw[AO (n:=j+1) fy];refine Ok.bind (Ok.idx fy hlt) λx _=>?_;rw[AE0 _ _ fA,aa];refine Ok.ite (λ_=>?_) (λ_=>Ok.ite (λ_=>?_) (λ_=>?_));·exact Ok.bind (Ok.sub fy fy fy) λy hy=>Ok.ret ⟨λ_=>⟨by grind,by grind,by grind,λ_=>by grind⟩,fA⟩
  ·refine Ok.bind (Akb l j fy hlt hb hN) λy hy=>Ok.ite (λhf=>Ok.ret ⟨λe=>by grind,λ_=>rfl⟩) (λhf=>?_);obtain⟨a1,a2,a3⟩:=hy (by grind);exact Ok.ret ⟨λ_=>⟨by grind,a2,a3,λ_=>by grind⟩,fA⟩
  ·refine Ok.meet (λ_:Bool=>True) (λb _=>Ok.ite (λ_=>?_) (λ_=>?_)) (λk24 h24=>Ok.ite (λ_=>h24 _ trivial) (λ_=>by rw[digit_eq,aa];grind))
   ·refine Ok.bind (Ok.sub fy fy (br _)) λy hy=>?_;have hl:=hy.2;refine Ok.bind (AA0 y fy fy) λn hn=>Ok.ite (λ_=>Ok.ret ⟨fA,λ_=>rfl⟩) (λhf=>?_);have hn0:n≠0:=by grind
    rw[AO (n:=j+n) fy];exact Ok.bind (Ok.sub fy fy fy) λz hz=>Ok.ret ⟨λ_=>⟨by grind,by grind,by grind,λ_=>by grind⟩,fA⟩
   ·refine Ok.meet (λn:Int=>0<=n/\j+n<=l.length) (λn hn=>?_) (λk34 h34=>ABS l hb _ j fy k34 (λn a b=>h34 n ⟨a,b⟩) N 0 fy fy fy);rw[AO (n:=j+n) fy];refine Ok.bind (Ok.sub fy fy fy) λz hz=>?_;have hl:=hz.2;have pos: ∀w:B8,0<w.length->(z==w)=true->0<n:=by grind
    refine Ok.meet (λb:Bool=>b=true->0<n) (λb hb'=>Ok.ite (λht=>?_) (λ_=>Ok.ret ⟨fA,λ_=>rfl⟩)) (λk47 h47=>?_);·have:=hb' ht;exact Ok.ret ⟨λ_=>⟨by grind,by grind,by grind,λ_=>by grind⟩,fA⟩
    ·exact Ok.ite (λh=>h47 _ (λ_=>pos _ fA h)) (λ_=>Ok.ite (λh=>h47 _ (λ_=>pos _ fA h)) (λ_=>h47 _ (λh=>pos _ fA h)))
end
end Go.VM
namespace Go.VM
def zeroV:ApiValue:=ApiValue.mk 0 [] [] []
def Q6:List B8->List ApiValue->B8->ApiValue×Bool |k::ks,x::xs,key=>if k==key then(x,true)else Q6 ks xs key|_,_,_=>(zeroV,false)
def BN (v:ApiValue) (key:B8):ApiValue×Bool:=if v.kind==7 then Q6 v.keys v.items key else(zeroV,false)
inductive okB (B:Nat):Nat->ApiValue->Prop |mk{d:Nat} (v:ApiValue) (ht:v.text.length<=300 * B) (hk:v.keys.length<=810+100 * B) (hl: ∀k,k∈v.keys->k.length<=300 * B) (hi:v.items.length<=800+100 * B) (h: ∀x,x∈v.items->okB B d x):okB B (d+1) v
abbrev okW:Nat->ApiValue->Prop:=okB 1
section
variable{N B:Nat}
def okB.text{d:Nat}{v:ApiValue}:okB B d v->v.text.length<=300 * B|.mk _ h _ _ _ _=>h
def okB.keys{d:Nat}{v:ApiValue}:okB B d v->v.keys.length<=810+100 * B|.mk _ _ h _ _ _=>h
def okB.items{d:Nat}{v:ApiValue}:okB B d v->v.items.length<=800+100 * B|.mk _ _ _ _ h _=>h
theorem okB.sub{d:Nat}{v:ApiValue}:okB B (d+1) v-> ∀x,x∈v.items->okB B d x|.mk _ _ _ _ _ h=>h
def okB.pos{d:Nat}{v:ApiValue}:okB B d v->0<d|.mk _ _ _ _ _ _=>by omega
def okW.text{d:Nat}{v:ApiValue} (h:okW d v):v.text.length<=300:=okB.text h
def okW.keys{d:Nat}{v:ApiValue} (h:okW d v):v.keys.length<=910:=okB.keys h
def okW.items{d:Nat}{v:ApiValue} (h:okW d v):v.items.length<=900:=okB.items h
theorem okW.sub{d:Nat}{v:ApiValue} (h:okW (d+1) v): ∀x,x∈v.items->okW d x:=okB.sub h
def okB.mono{d:Nat}{v:ApiValue} (h:okB B d v): ∀e,d<=e->okB B e v:=by induction h with | mk v ht hk hl hi h ih=>intro e he;obtain⟨e',rfl⟩: ∃e',e=e'+1:=⟨e-1,fy⟩;exact .mk v ht hk hl hi λx hx=>ih x hx e' fy
theorem AOb (v:ApiValue) (key:B8) (k5:Unit->Option (ApiValue×Bool)): ∀(ks:List B8) (i:Int),(v.items.length:Int)<=i->ED N v key k5 ks i=k5 ()
 |[],i,h=>by rw[ED]
 | x::ks,i,h=>by
  have h3:decide (i<(v.items.length:Int))=false:=by grind
  rw[ED,AA,h3,AOb v key k5 ks (i+1) fy];simp
def AQg (v:ApiValue) (key:B8) (k5:Unit->Option (ApiValue×Bool)) (h5:k5 ()=some (zeroV,false)): ∀(ks:List B8) (xs xpre:List ApiValue),v.items=xpre++xs->ED N v key k5 ks (xpre.length:Int)=some (if v.kind==7 then Q6 ks xs key else(zeroV,false)) | [],xs,xpre,hx=>by grind[ED,Q6]| x::ks,[],xpre,hx=>by grind[Q6,zeroV,AOb]| x::ks,y::ys,xpre,hx=>by have ih:=AQg v key k5 h5 ks ys (xpre++[y]) (by grind);rw[ED,AA,AcJ hx,ACD hx,aa,Rj xpre y,ih,Q6];cases v.kind==7<;>cases x==key<;>simp
def ABs (v:ApiValue) (key:B8) (hb:v.keys.length<=900000):JY N v key=some (BN v key):=by have:=AQg (N:=N) v key (λ_=>some (zeroV,false)) rfl v.keys v.items [] rfl;unfold JY BN;rw[AA,BS fy];exact this
theorem AEw (v:ApiValue) (key:B8) (k2:Unit->Option (ApiValue×Bool)): ∀(ks:List B8) (i:Int),(v.items.length:Int)<=i->FW N v key k2 ks i=k2 ()
 |[],i,h=>by rw[FW]
 | x::ks,i,h=>by
  have h3:decide (i<(v.items.length:Int))=false:=by grind
  rw[FW,AA,h3,AEw v key k2 ks (i+1) fy];simp
def AE7 (v:ApiValue) (key:B8) (k2:Unit->Option (ApiValue×Bool)) (h5:k2 ()=some (zeroV,false)): ∀(ks:List B8) (xs xpre:List ApiValue),v.items=xpre++xs->FW N v key k2 ks (xpre.length:Int)=some (Q6 ks xs key) | [],xs,xpre,hx=>by grind[FW,Q6]| x::ks,[],xpre,hx=>by grind[Q6,zeroV,AEw]| x::ks,y::ys,xpre,hx=>by have ih:=AE7 v key k2 h5 ks ys (xpre++[y]) (by grind);rw[FW,AA,AcJ hx,ACD hx,aa,Rj xpre y,ih,Q6];cases x==key<;>simp
def Rq (v:ApiValue) (key:B8) (hb:v.keys.length<=4611686018427387904):Jw N v key=some (BN v key):=by
 unfold Jw BN;cases h:(v.kind==7)
 ·have:(v.kind !=7)=true:=by grind
  rw[ah this];rfl
 ·have:(v.kind !=7)=false:=by grind
  rw[this,ae fA,AA,BS fy];exact AE7 (N:=N) v key (λ_=>some (zeroV,false)) rfl v.keys v.items [] rfl
theorem AOG: ∀(ks:List B8) (xs:List ApiValue) (key:B8),(Q6 ks xs key).1∈xs\/(Q6 ks xs key).1=zeroV
 |[],_,_=>.inr rfl
 |_::_,[],_=>.inr rfl
 | k::ks,x::xs,key=>by
  rw[Q6];split;·simp
  ·rcases AOG ks xs key with h|h<;>grind
def Acm (v:ApiValue) (key:B8):(BN v key).1∈v.items\/(BN v key).1=zeroV:=by
 unfold BN;split;·grind[AOG]
 simp
inductive okD:Nat->ApiValue->Prop |mk{d:Nat} (v:ApiValue) (hk:v.keys.length<=4611686018427387904) (hi:v.items.length<=4611686018427387904) (h: ∀x,x∈v.items->okD d x):okD (d+1) v
def okB.dB{d:Nat}{v:ApiValue} (h:okB B d v) (hB:B<=1000):okD d v:=by induction h with |mk v ht hk hl hi h ih=>exact .mk v fy fy ih
def okW.d{d:Nat}{v:ApiValue} (h:okW d v):okD d v:=okB.dB h fy
def AAl (v:ApiValue) (k14:Unit->Option Bool) (h:k14 ()=some true): ∀(suf pre:List B8),v.keys=pre++suf->Ho N v k14 suf (pre.length:Int)=some true |[],_,_=>by rw[Ho];exact h| x::suf,pre,e=>by rw[Ho,ACD e,aa,ah fA,Rj pre x];exact AAl v k14 h suf (pre++[x]) (by rw[e];simp)
def ABP (v:ApiValue) (rc:ApiValue->ApiValue->Option Bool) (k6:Unit->Option Bool) (h:k6 ()=some true): ∀(suf pre:List ApiValue),v.items=pre++suf->(∀x,x∈suf->rc x x=some true)->G9 N v rc k6 suf (pre.length:Int)=some true |[],_,_,_=>by rw[G9];exact h| x::suf,pre,e,hr=>by rw[G9,ACD e,aa,hr x fA,aa,ah rfl,Rj pre x];exact ABP v rc k6 h suf (pre++[x]) (by rw[e];simp) λy hy=>hr y (by simp[hy])
def AEJ: ∀(D d:Nat) (v:ApiValue),okD d v->d<=D->LK N D v v=some true |0,d,v,h,hd=>by cases h;omega| D+1,d,v,h,hd=>by cases h with | mk v hk hi h=>rename_i d;rw[LK];simp only[AA,eK,al,au,eT,av];rw[BS hi];refine ABP v _ _ ?_ v.items [] rfl λx hx=>AEJ D d x (h x hx) fy;rw[BS hk];exact AAl v _ rfl v.keys [] rfl
end
end Go.VM
