import Derived.Test.YtfcejbjjeaaleaaGreatDoorL5
set_option linter.defProp false
set_option linter.unusedVariables false
set_option linter.unusedSimpArgs false
namespace Go.VM
section
variable{N:Nat}
def Mh (a:B8):Prop:=a.map CX=[104,116,116,112,115]
def Zk{a:B8} (h:Mh a):a.length=5/\∀x,x∈a->BS x=true/\x.toNat<128/\x≠35/\x≠63/\x≠47/\x≠58/\x≠64:=by
 refine⟨by have:=bg List.length h;simp_all,λx AR=>?_⟩;have hm:CX x∈([104,116,116,112,115]:B8):=by rw[<-h];grind
 have key:=BJ (f:=λn=>(!([104,116,116,112,115]:B8).contains (CX (UInt8.ofNat n)))||(ABm n&&decide (n<128)&&decide (n≠35)&&decide (n≠63)&&decide (n≠47)&&decide (n≠58)&&decide (n≠64))) (g:=λ_=>true) (by kernel_rfl) x;simp only[bv]at key;rw[show([104,116,116,112,115]:B8).contains (CX x)=true by grind]at key;simp only[aU,be,az,au]at key;obtain⟨⟨⟨⟨⟨⟨k1,k2⟩,k3⟩,k4⟩,k5⟩,k6⟩,k7⟩:=key;refine⟨k1,k2,?_,?_,?_,?_,?_⟩<;>(rintro rfl;simp_all)
def ABK{c:UInt8}: ∀(pre t:B8),(∀x,x∈pre->x≠c)->Ac c (pre++t)=(pre++(Ac c t).1,(Ac c t).2)
 |[],t,_=>rfl
 | x::pre,t,h=>by
  have ih:=ABK pre t λy hy=>h y (by grind);have AR:x≠c:=h x fH;have e1:(c==x)=false:=by grind
  have e2:(x !=c)=true:=by grind
  rw[bf];cases hc:(pre++t).contains c;·rw[Sz (by rw[bh,e1,hc];rfl)];rw[Sz hc]at ih;simp only[aD]at ih;obtain⟨i1,i2⟩:=ih;rw[bf,<-i1,<-i2]
  ·rw[HZ (by grind),aN,e2,bI,e2];rw[HZ hc]at ih;simp_all
def Asz{α:Type} (c:UInt8) (l:B8) (hb:l.length<=1000000) (k:B8×B8×Bool->Option α):((Be N l [c]).bind λy=>if(decide (y<(l.length:Int)))=true then (sub l (wr .i64 (y+1)) (l.length:Int)).bind λx7=>(sub l 0 y).bind λx8=>k (x8,x7,true)else k (l,[],false))=k (Ac c l):=by
 have hw:(λx:UInt8=>!([c]:B8).contains x)=(λx=>x !=c):=by grind
 rw[LA l [c] fH fG,aa,hw];cases hc:l.contains c;·rw[UL l hc,ae fH,Sz hc]
 ·have hlt:=OJ hc;obtain⟨s1,s2⟩:=ALi hc hb;rw[OM,ah hc]at s1 s2;have w0:wr .i64 (((l.takeWhile (· !=c)).length:Int)+0)=((l.takeWhile (· !=c)).length:Int):=by grind[AO]
  rw[w0]at s1;rw[ah (by grind),show((1:Int))=(([c]:B8).length:Int)from rfl,s2,aa,s1,aa,HZ hc]
def OI (r:B8):B8×B8×Bool:=if preB [47,47] r=true then((r.drop 2).dropWhile (· !=47),(r.drop 2).takeWhile (· !=47),true)else(r,[],false)
def Vl (a b:B8):ApiURI:=⟨a,(OI (Ac 63 (Ac 35 b).1).1).2.1,(OI (Ac 63 (Ac 35 b).1).1).1,(Ac 63 (Ac 35 b).1).2.1,(Ac 35 b).2.1,true,(OI (Ac 63 (Ac 35 b).1).1).2.2,(Ac 63 (Ac 35 b).1).2.2,(Ac 35 b).2.2⟩
def YQ (k2:Unit->Option Bool): ∀(l:B8) (i:Int),(∀x,x∈l->BS x=true)->Dv N k2 l i=k2 () |[],i,_=>by rw[Dv]| c::l,i,h=>by rw[Dv];dsimp only[AA];rw[Oi,aa,h c fH,ah rfl,ae fI];exact YQ k2 l (i+1) λx AR=>h x (by grind)
def AWk{a:B8} (h:Mh a):Lu N a=some true:=by obtain⟨h5,hl⟩:=Zk h;unfold Lu;rw[AA,BV fG,YQ _ a 0 λx AR=>(hl x AR).1];cases a with |nil=>grind|cons _ _=>rfl
def Aqm{p:UInt8->Bool}: ∀(a:B8){x:UInt8}{t:B8},(∀y,y∈a->p y=true)->p x=false->(a++x::t).takeWhile p=a |[],x,t,_,AR=>by rw[aT,aN,AR];rfl|y::a,x,t,h,AR=>by simp_all
def Amx{a:B8} (h:Mh a): ∀y,y∈a->(!([58,47]:B8).contains y)=true:=λy hy=>by obtain⟨_,_,_,_,k5,k6,_⟩:=(Zk h).2 y hy;grind
def Agm{α:Type}{d:JD Int} (r:B8) (hb:r.length<=1000000) (k:B8×B8×Bool->Option α):((strings_CutPrefix N r ([47,47]:B8)).bind λy24=>if y24.2=true then (strings_IndexByte N y24.1 47).bind λy26=>AB (λj28:Int=>(sub y24.1 0 j28).bind λx32=>(sub y24.1 j28 (y24.1.length:Int)).bind λx33=>k (x33,x32,true)) (λk29=>if(decide (y26<0))=true then k29 (y24.1.length:Int) else k29 y26) d else k (r,[],false))=k (OI r):=by
 rw[AXo,aa];unfold OI;by_cases h:preB [47,47] r=true
 ·rw [ah h,ah h];simp only[av,ag,ap];rw[show(47:Int)=AC 47 from rfl,KY,aa,OM,AA];generalize hq:r.drop (0+1+1)=q;have hql:q.length<=1000000:=by grind
  cases hc:q.contains 47
  ·have hd:q.dropWhile (· !=(47:UInt8))=[]:=by have e:=bw (p:=(· !=(47:UInt8))) (l:=q);rw[UL q hc]at e;simp_all
   simp only[aj,aq];rw[ah fI,show(0:Int)=((0:Nat):Int)from rfl,BA q 0 _ (bP _) (aw _),aa,Cx (aw _),aa,UL q hc,hd];simp
  ·have hlt:=OJ hc;simp only[av];rw[ae fH,show(0:Int)=((0:Nat):Int)from rfl,BA q 0 _ (bP _) fG,aa,Cx fG,aa,ba,bV,J3,Og]
 simp_all
def AoU{α:Type} (r:B8) (hb:r.length<=1000000) (k:B8×B8×Bool->Option α):((GX N r ([47,47]:B8)).bind λy36=>if y36=true then (sub r 2 (r.length:Int)).bind λx38=>(Be N x38 ([47]:B8)).bind λy39=>(sub r 2 (wr .i64 (2+y39))).bind λx41=>(sub r (wr .i64 (2+y39)) (r.length:Int)).bind λx42=>k (x42,x41,true) else k (r,[],false))=k (OI r):=by
 have hw:(λx:UInt8=>!([47]:B8).contains x)=(λx=>x !=47):=by grind
 rw[VE,aa];unfold OI;by_cases h:preB [47,47] r=true
 ·have hl:=QB h;simp only[ag,ap]at hl;have hle:=KM (· !=(47:UInt8)) (r.drop 2);rw[aB]at hle;rw[ah h,ah h,show(2:Int)=((2:Nat):Int)from rfl,Cx fG,aa,LA _ [47] fH (by grind),aa,hw];have e:wr .i64 (((2:Nat):Int)+(((r.drop 2).takeWhile (λx=>x !=47)).length:Int))=((2+((r.drop 2).takeWhile (λx=>x !=47)).length:Nat):Int):=by grind[AO]
  rw[e,BA r 2 _ fG fG,aa,Cx fG,aa,show 2+((r.drop 2).takeWhile (λx=>x !=47)).length-2=((r.drop 2).takeWhile (λx=>x !=47)).length by omega,J3,<-aG,Og]
 simp_all
def Aoh{c:UInt8}{a b:B8} (h: ∀x,x∈a->x≠c) (hc:(58:UInt8)≠c):Ac c (a++58::b)=(a++58::(Ac c b).1,(Ac c b).2):=by
 rw[show a++58::b=(a++[58])++b by simp,ABK (a++[58]) b (by
  intro x AR;simp only[aY,aI,db,ek]at AR;rcases AR with AR|rfl;·exact h x AR
  ·exact hc)];simp
def Anz{a b:B8} (h:Mh a) (hb:(a++58::b).length<=16384) (hN:20000<=N):Oh N (a++58::b)=some (Vl a b,0):=by
 obtain⟨h5,hl⟩:=Zk h;simp only[an,ag]at hb;have hc1:=Ib 35 b;have hc2:=Ib 63 (Ac 35 b).1;unfold Oh Vl;rw[ae (by simp only[an,ag,au];omega),Oo 35 _ (by grind),aa,Aoh (c:=35) (λx AR=>(hl x AR).2.2.1) fI,Oo 63 _ (by grind),aa,Aoh (c:=63) (λx AR=>(hl x AR).2.2.2.1) fI];dsimp only;generalize (Ac 63 (Ac 35 b).1)=d at *;obtain⟨r,q,hq⟩:=d;dsimp only at *;have hset:=Amx h;have htw:((a++58::r).takeWhile λc=>!([58,47]:B8).contains c)=a:=Aqm a hset fI;have hany:(a++58::r).any ([58,47]:B8).contains=true:=fH;refine(Bj (a:=(r,a,true)) λk=>?_).trans ?_;·rw[Zm fI fI fI (by grind) (by grind) fG,aa];unfold AUm;rw[ah hany,htw];have hget:(a++58::r)[a.length]?=some 58:=fH;dsimp only[AA];rw[ah fH,Ji,hget,aa,ah fI,show(0:Int)=((0:Nat):Int)from rfl,BA _ 0 _ (bP _) fH,aa,ba,bV,List.take_left,AWk h,aa,ah rfl,show wr .i64 ((a.length:Int)+1)=((a.length+1:Nat):Int) by grind[AO],Cx fH,aa];simp
 ·dsimp only;refine(Bj (a:=OI r) λk=>Agm r fG k).trans ?_;rfl
end
end Go.VM
namespace Go.VM
section
variable{N:Nat}
def Ac1 (c:UInt8):Bool:=([43,45,46]:B8).contains c
def ATx (c:UInt8):Bool:=BS c||(DC c||Ac1 c)
def AEI:B8->Bool |[]=>false|c::t=>BS c&&t.all ATx
def Nu (c:UInt8):Bool:=!([58,47]:B8).contains c
def AF8 (set:B8): ∀l:B8,l.any set.contains=!((l.dropWhile λc=>!set.contains c)==[])
 |[]=>rfl
 | c::l=>by
  rw[bK,bI];cases h:set.contains c;·rw[be,AF8 set l];rfl
  ·simp
def AEv (d:B8):Option (B8×B8):=if(d.dropWhile Nu).head?=some 58 then some (d.takeWhile Nu,(d.dropWhile Nu).drop 1)else none
def AZ9:ApiURI:=⟨[],[],[],[],[],false,false,false,false⟩
def usT (s:B8) (a:B8) (h:Bool) (d:B8):ApiURI:=⟨a,(OI d).2.1,(OI d).1,(Ac 63 (Ac 35 s).1).2.1,(Ac 35 s).2.1,h,(OI d).2.2,(Ac 63 (Ac 35 s).1).2.2,(Ac 35 s).2.2⟩
def Ti (s:B8):ApiURI×Int:=if s.length>16384 then(AZ9,5) else match AEv (Ac 63 (Ac 35 s).1).1 with |none=>(usT s [] false (Ac 63 (Ac 35 s).1).1,0)|some (a,r)=>if AEI a=true then(usT s a true r,0)else(AZ9,6)
def Ary (c:UInt8):decide (Go.Lib.indexByte ([43,45,46]:B8) c<0)=!Ac1 c:=by grind[Ac1,Go.Lib.indexByte]
def AFS (k2:Unit->Option Bool): ∀(l:B8) (i:Int),1<=i->Dv N k2 l i=if l.all ATx=true then k2 ()else some false
 |[],i,_=>by grind[Dv]
 | c::l,i,h=>by
  have ih:=AFS k2 l (i+1) fG;have h0:(i==0)=false:=by grind
  rw[Dv];dsimp only[AA];rw[Oi,aa,aK];unfold ATx at *;cases BS c
  ·rw[ae fI,h0,ae fI,RV,aa];cases DC c;·rw[ae fI,KY,aa,Ary];cases Ac1 c<;>simp_all[Ac1]
   simp_all
  simp_all
def AlK{a:B8} (hb:a.length<=1000000):Lu N a=some (AEI a):=by
 unfold Lu AEI;rw[AA,BV fG];cases a with
 |nil=>grind[Dv]
 | cons c t=>
  rw[Dv];dsimp only[AA];rw[Oi,aa];cases BS c;·rfl
  ·rw[ah rfl,ae fI,AFS _ t _ fG];cases t.all ATx<;>rfl
def AFv (k2:Unit->Option Bool): ∀(l:B8) (i:Int),1<=i->EK N k2 l i=if l.all ATx=true then k2 ()else some false
 |[],i,_=>by grind[EK]
 | c::l,i,h=>by
  have ih:=AFv k2 l (i+1) fG;have h0:(i==0)=false:=by grind
  rw[EK];dsimp only[AA];rw[QI,aa,aK];unfold ATx at *;cases BS c
  ·rw[ae fI,h0,ae fI,O1,aa];cases DC c
   ·rw[ae fI,Po _ _ fI,aa];unfold Ac1;cases ([43,45,46]:B8).contains c;·rfl
    ·rw[ae fI,ih];rfl
   simp_all
  simp_all
def AmA{a:B8} (hb:a.length<=1000000):Mc N a=some (AEI a):=by
 unfold Mc AEI;rw[AA,BV fG];cases a with
 |nil=>grind[EK]
 | cons c t=>
  rw[EK];dsimp only[AA];rw[QI,aa];cases BS c;·rfl
  ·rw[ah rfl,ae fI,AFv _ t _ fG];cases t.all ATx<;>rfl
def AAE{α:Type} (d:B8) (e:Option α) (k:B8×B8×Bool->Option α):Option α:=match AEv d with |none=>k (d,[],false)|some (a,r)=>if AEI a=true then k (r,a,true)else e
def UR (d:B8):d.takeWhile Nu++d.dropWhile Nu=d:=bw
theorem AYp{α:Type}{d:B8} (hb:d.length<=1000000) (hN:20<=N) (e:Option α) (k:B8×B8×Bool->Option α){D:JD Bool}:((strings_IndexAny N d ([58,47]:B8)).bind λy9=>AB (λj11:Bool=>if j11=true then (sub d 0 y9).bind λx16=>(Lu N x16).bind λy17=>if y17=true then (sub d (wr .i64 (y9+1)) (d.length:Int)).bind λx19=>k (x19,x16,true) else e else k (d,[],false)) (λk12=>if(decide (y9>=0))=true then (idx d y9).bind λx15=>k12 ((AC x15)==58) else k12 false) D)=AAE d e k:=by
 rw[Aa7 hb hN,aa];dsimp only[AA];unfold AUm AAE AEv;rw[AF8];change _=_;have hw:(d.takeWhile λc=>!([58,47]:B8).contains c)=d.takeWhile Nu:=rfl;have hd:(d.dropWhile λc=>!([58,47]:B8).contains c)=d.dropWhile Nu:=rfl;rw[hw,hd];have hs:=UR d;cases AR:d.dropWhile Nu with
 |nil=>rfl
 | cons c t=>
  have hlen:d.length=(d.takeWhile Nu).length+(t.length+1):=by have:=bg List.length hs;grind
  have hget:d[(d.takeWhile Nu).length]?=some c:=by grind
  rw[show(!((c::t)==([]:B8)))=true from rfl,ah rfl,ah fH,Ji,hget,aa,List.head?_cons];by_cases h:c=58
  ·subst h;rw[ah fI,ah rfl,show(0:Int)=((0:Nat):Int)from rfl,BA _ 0 _ (bP _) fG,aa,ba,bV,J3,AlK fG,aa];dsimp only;cases AEI (d.takeWhile Nu);·rfl
   ·rw[ah rfl,ah rfl,show wr .i64 (((d.takeWhile Nu).length:Int)+1)=(((d.takeWhile Nu).length+1:Nat):Int) by grind[AO],Cx fG,aa,<-aG,Og,AR]
  ·have hb':((AC c)==58)=false:=by rw[show(58:Int)=AC 58 from rfl,Amt];grind
   simp_all
theorem Abl{α:Type}{d:B8} (hb:d.length<=1000000) (e:Option α) (k:B8×B8×Bool->Option α){D:JD Bool}:((Be N d ([58,47]:B8)).bind λy9=>AB (λj11:Bool=>if j11=true then (sub d 0 y9).bind λx16=>(Mc N x16).bind λy17=>if y17=true then (sub d (wr .i64 (y9+1)) (d.length:Int)).bind λx19=>k (x19,x16,true) else e else k (d,[],false)) (λk12=>if(decide (y9<(d.length:Int)))=true then (idx d y9).bind λx15=>k12 ((AC x15)==58) else k12 false) D)=AAE d e k:=by
 rw[LA _ _ fI fG,aa];dsimp only[AA];unfold AAE AEv;have hw:(d.takeWhile λc=>!([58,47]:B8).contains c)=d.takeWhile Nu:=rfl;rw[hw];have hs:=UR d;cases AR:d.dropWhile Nu with
 | nil=>simp_all
 | cons c t=>
  have hlen:d.length=(d.takeWhile Nu).length+(t.length+1):=by have:=bg List.length hs;grind
  have hget:d[(d.takeWhile Nu).length]?=some c:=by grind
  rw[ah (by grind),Ji,hget,aa,List.head?_cons];by_cases h:c=58
  ·subst h;rw[ah fI,ah rfl,show(0:Int)=((0:Nat):Int)from rfl,BA _ 0 _ (bP _) fG,aa,ba,bV,J3,AmA fG,aa];dsimp only;cases AEI (d.takeWhile Nu);·rfl
   ·rw[ah rfl,ah rfl,show wr .i64 (((d.takeWhile Nu).length:Int)+1)=(((d.takeWhile Nu).length+1:Nat):Int) by grind[AO],Cx fG,aa,<-aG,Og,AR]
  ·have hb':((AC c)==58)=false:=by rw[show(58:Int)=AC 58 from rfl,Amt];grind
   simp_all
def AQK{α β:Type}{K:α->Option β}{body:(α->Option β)->Option β}{d:JD α}{X:(α->Option β)->Option β} (h: ∀k:α->Option β,body k=X k):AB K body d=X K:=h K
def ACV (s:B8) (hb:s.length<=1000000) (hN:20<=N):Oh N s=some (Ti s):=by
 have hc1:=Ib 35 s;have hc2:=Ib 63 (Ac 35 s).1;unfold Oh Ti;by_cases h:s.length>16384;·rw[ah (by grind),ah h];rfl
 rw[ae (by grind),ae h,Oo 35 _ fG,aa,Oo 63 _ fG,aa];generalize hd:(Ac 63 (Ac 35 s).1).1=d at *;refine(AQK (X:=λk=>AAE d (some (AZ9,6)) k) λk=>AYp fG hN _ k).trans ?_;unfold AAE;cases hcol:AEv d with
 | none=>dsimp only;refine(Bj (a:=OI d) λk=>Agm d fG k).trans ?_;rfl
 | some p=>
  obtain⟨a,r⟩:=p;dsimp only;cases AEI a;·rfl
  ·have hr:r.length<=d.length:=by
    unfold AEv at hcol;split at hcol;·cases hcol;have:=bg List.length (UR d);grind
    grind
   rw[ah rfl,ah rfl];refine(Bj (a:=OI r) λk=>Agm r fG k).trans ?_;rfl
def AUo (s:B8) (hb:s.length<=1000000):PU N s=some (Ti s):=by
 have hc1:=Ib 35 s;have hc2:=Ib 63 (Ac 35 s).1;unfold PU Ti;by_cases h:s.length>16384;·rw[ah (by grind),ah h];rfl
 rw[ae (by grind),ae h];refine(Bj (a:=Ac 35 s) λk=>Asz 35 _ fG k).trans ?_;refine(Bj (a:=Ac 63 (Ac 35 s).1) λk=>Asz 63 _ fG k).trans ?_;generalize hd:(Ac 63 (Ac 35 s).1).1=d at *;refine(AQK (X:=λk=>AAE d (some (AZ9,6)) k) λk=>Abl fG _ k).trans ?_;unfold AAE;cases hcol:AEv d with
 | none=>dsimp only;refine(Bj (a:=OI d) λk=>AoU d fG k).trans ?_;rfl
 | some p=>
  obtain⟨a,r⟩:=p;dsimp only;cases AEI a;·rfl
  ·have hr:r.length<=d.length:=by
    unfold AEv at hcol;split at hcol;·cases hcol;have:=bg List.length (UR d);grind
    grind
   rw[ah rfl,ah rfl];refine(Bj (a:=OI r) λk=>AoU r fG k).trans ?_;rfl
end
end Go.VM
namespace Go.VM
section
variable{N:Nat}
def AFL (k4:Unit->Option Bool): ∀ps:List B8,(∀p,p∈ps->p.length<=2^60)->GN N k4 ps=if(ps.all λp=>(Gh 255 p).2==0)=true then k4 ()else some false |[],_=>by grind[GN]| p::ps,h=>by rw[GN,show(255:Int)=((255:Nat):Int)from rfl,ADs fI p (h p fH),aa,AFL k4 ps λq hq=>h q (by grind),aK];cases hx:((Gh 255 p).2==0)<;>simp[bne,hx]
def AXg (l:B8) (hb:l.length<=1000000):Np N l=some (ACl l):=by
 have hl:=Jw 46 l;have hp:=I4 46 l;unfold Np;rw[ZL l 46 hb,aa];dsimp only[AA];rw[BV fG,AFL _ _ λp h=>by grind];unfold ACl;have e:(((AU 46 l).length:Int) !=4)=!decide ((AU 46 l).length=4):=by grind
 rw[e];cases decide ((AU 46 l).length=4)<;>cases ((AU 46 l).all λp=>(Gh 255 p).2==0)<;>simp
def ADE (l:B8) (hN:300<=N):Ox N l=some (Jf l):=by
 unfold Ox Jf;by_cases h:l=[];·grind
 rw[ae (by grind),ae h];by_cases h2:l.length>253;·rw[ah (by simp only[au];omega),ah h2]
 rw[ae (by simp only[au];omega),ae h2];dsimp only[AA];rw[AXg l fG,aa,AgD l fG fG,aa,lower_eq l fG,aa];cases ACl l<;>cases U1 l<;>rfl
def Agg (l:B8) (hN:300<=N) (hb:l.length<=1000000):Om N l=some (hpS l):=by
 have hle:=Ib 58 l;unfold Om hpS;rw[Oo 58 l fG,aa,ADE _ hN,aa];dsimp only[AA];rw[AfL _ fG,aa];by_cases h:((Jf (Ac 58 l).1).2 !=0)=true;·grind
 ·rw [ae h,ae h];cases (Ac 58 l).2.2;·rfl
  ·simp only[av];by_cases hp:((Tc (Ac 58 l).2.1).2 !=0)=true;·simp_all
   ·rw[ae hp,ae hp];split<;>rfl
def Le (p:Int):Prop:=0<=p/\p<=65535
theorem AjD (l:B8):Le (Tc l).1:=by grind[UE,Tc,Le]
theorem AMj (l:B8):Le (hpS l).1.port:=by grind[AjD,Ac,hpS,Le]
theorem SB (l:B8):(Jf l).1.length<=253:=by grind[Jf]
theorem ABV (l:B8):(hpS l).1.host.length<=253:=by grind[SB,Ac,hpS]
def hpF (h:B8) (p:Int):B8:=if p=0 then h else h++[58]++fmtS p.toNat
def YV (h:B8) (p:Int):(hpF h p).length<=h.length+21:=by grind[PM,hpF]
def AmB (h:B8) (p:Int) (hp:Le p) (hb:h.length<=1000000) (hN:20<=N):PH N ⟨h,p⟩=some (hpF h p):=by
 have hl:=PM p.toNat;obtain⟨h1,h2⟩:=hp;unfold PH hpF;by_cases h0:p=0;·simp_all
 ·rw[ae (by grind),ae h0,ae (by grind)];have e:wr .u64 p=((p.toNat:Nat):Int):=by rw[IC fG];omega
  simp only[e];rw[TC p.toNat fG hN,aa,BV fJ,BV fJ]
def AmL (h:B8) (p:Int) (hp:Le p) (hb:h.length<=1000000) (hN:20<=N):OZ N ⟨h,p⟩=some (hpF h p):=by
 have hl:=PM p.toNat;obtain⟨h1,h2⟩:=hp;unfold OZ Jz hpF;by_cases h0:p=0;·simp_all
 ·rw[ae (by grind),ae h0];have e:wr .u64 p=((p.toNat:Nat):Int):=by grind[IC]
  simp only[e];rw[ae (by grind),TJ p.toNat fG hN,aa,aa,BV (by grind),BV (by grind)]
end
end Go.VM
namespace Go.VM
section
variable{N:Nat}
def ASm (c:UInt8) (l:B8):strings_Contains N l [c]=some (l.contains c):=by unfold strings_Contains;rw[AKH,aa,Ke]
def AqQ{c:UInt8}{l:B8} (hb:l.length<=1000000):decide ((((l.takeWhile λx=>!([c]:B8).contains x).length:Nat):Int)<(l.length:Int))=l.contains c:=by grind[bne,UL,OJ]
theorem AGk (also:B8): ∀(k:Nat) (t out:B8),(UQ also k t out).1.length<=out.length+t.length
 |0,t,out=>by simp[UQ]
 |k+1,[],out=>by simp[UQ]
 | k+1,c::t,out=>by
  rw[UQ];split;·cases h:NU t with |none=>simp| some x=>have h2:=U8 h;have:=AGk also k (t.drop 2) (out++(if FI x=true then [x]else NH x));grind[FI,NH]
  ·split;·have:=AGk also k t (out++[c]);grind
   ·simp
def L6 (s also:B8):(EN N s also).1.length<=s.length:=by grind[EN,AGk]
def Uq (u:ApiURL):B8:=if u.hasQuery=true then u.path++[63]++u.query else u.path
def Pt (u:ApiURL):B8:=if u.hasFrag=true then([104,116,116,112,115,58,47,47]++hpF u.host u.port)++Uq u++([35]++u.fragment)else([104,116,116,112,115,58,47,47]++hpF u.host u.port)++Uq u
def Ajj (u:ApiURL) (h:u.path.length<=1000000/\u.query.length<=1000000):M6 N u=some (Uq u):=by
 unfold M6 Uq;cases u.hasQuery;·rfl
 ·rw[ah rfl,ah rfl,BV (by grind),BV (by grind)]
def Agk (u:ApiURL) (h:u.path.length<=1000000/\u.query.length<=1000000):OW N u=some (Uq u):=by
 unfold OW Uq;cases u.hasQuery;·rfl
 ·rw[ah rfl,ah rfl,BV (by grind),BV (by grind)]
def ADa (u:ApiURL):(Uq u).length<=u.path.length+u.query.length+1:=by grind[Uq]
def AEj (u:ApiURL):Prop:=Le u.port/\u.host.length<=1000000/\u.path.length<=1000000/\u.query.length<=1000000/\u.fragment.length<=1000000
def Xj (u:ApiURL) (h:AEj u) (hN:20<=N):FL N u=some (Pt u):=by
 obtain⟨h1,h2,h3,h4,h5⟩:=h;have hh:=YV u.host u.port;have ht:=ADa u;unfold FL O4 Pt;rw[aa,AmB _ _ h1 h2 hN,aa,BV fJ,Ajj u ⟨h3,h4⟩,aa,BV fJ];dsimp only[AA];cases u.hasFrag;·rfl
 ·rw[ah rfl,ah rfl,BV (by grind),BV fJ]
def YD (u:ApiURL) (h:AEj u) (hN:20<=N):Fh N u=some (Pt u):=by
 obtain⟨h1,h2,h3,h4,h5⟩:=h;have hh:=YV u.host u.port;have ht:=ADa u;unfold Fh Pz Pt;rw[aa,AmL _ _ h1 h2 hN,aa,BV fJ,Agk u ⟨h3,h4⟩,aa,BV fJ];dsimp only[AA];cases u.hasFrag;·rfl
 ·rw[ah rfl,ah rfl,BV (by grind),BV fJ]
theorem AP1 (r:B8):(OI r).1.length<=r.length/\(OI r).2.1.length<=r.length:=by grind[OI,List.dropWhile_sublist,KM,List.length_drop]
def AnQ (a b:B8):(Vl a b).authority.length<=b.length/\(Vl a b).path.length<=b.length/\(Vl a b).query.length<=b.length/\(Vl a b).fragment.length<=b.length:=by grind[Ib,Ac,AP1,Vl]
def inP:B8:=[33,36,38,39,40,41,42,43,44,59,61,58,64,47]
def inQ:B8:=[33,36,38,39,40,41,42,43,44,59,61,58,64,47,63]
def Pf:ApiURL:=⟨[],0,[],[],[],false,false⟩
def RN (N:Nat) (p:B8):B8:=if M5 N p []=[]then [47]else M5 N p []
def AEW (N:Nat) (U:ApiURI):ApiURL×Int:=if U.hasAuthority=false then(Pf,71) else if U.authority.contains 64=true then(Pf,70) else if((hpS U.authority).2 !=0)=true then(Pf,(hpS U.authority).2) else if((EN N U.path inP).2 !=0)=true then(Pf,(EN N U.path inP).2) else if((EN N U.query inQ).2 !=0)=true then(Pf,(EN N U.query inQ).2) else if((EN N U.fragment inQ).2 !=0)=true then(Pf,(EN N U.fragment inQ).2) else if(Pt ⟨(hpS U.authority).1.host,(hpS U.authority).1.port,RN N (EN N U.path inP).1,(EN N U.query inQ).1,(EN N U.fragment inQ).1,U.hasQuery,U.hasFrag⟩).length>4096 then(Pf,5) else(⟨(hpS U.authority).1.host,(hpS U.authority).1.port,RN N (EN N U.path inP).1,(EN N U.query inQ).1,(EN N U.fragment inQ).1,U.hasQuery,U.hasFrag⟩,0)
def Vj (N:Nat) (a b:B8):ApiURL×Int:=if(a++58::b).length>4096 then(Pf,5)else AEW N (Vl a b)
def ACU (p:B8):(RN N p).length<=p.length+1:=by grind[QA,List.length_nil,RN]
def Aeb{a:B8} (h:Mh a):(a.map CX==List.map CX [104,116,116,112,115])=true:=by rw[h];decide
def Abw (N:Nat) (s:B8):ApiURL×Int:=if s.length>4096 then(Pf,5) else if((Ti s).2 !=0)=true then(Pf,(Ti s).2) else if(!((Ti s).1.hasScheme&&((Ti s).1.scheme.map CX==List.map CX [104,116,116,112,115])))=true then(Pf,60) else AEW N (Ti s).1
def AmX{d a r:B8} (h:AEv d=some (a,r)):a.length<=d.length/\r.length<=d.length:=by
 unfold AEv at h;split at h;·cases h;have:=bg List.length (UR d);grind
 grind
def AXP (s:B8):(Ti s).1.authority.length<=s.length/\(Ti s).1.path.length<=s.length/\(Ti s).1.query.length<=s.length/\(Ti s).1.fragment.length<=s.length/\(Ti s).1.scheme.length<=s.length:=by
 have hc1:=Ib 35 s;have hc2:=Ib 63 (Ac 35 s).1;unfold Ti;split;·simp[AZ9]
 generalize hd:(Ac 63 (Ac 35 s).1).1=d at *;have key: ∀a h r,r.length<=d.length->a.length<=s.length->(usT s a h r).authority.length<=s.length/\(usT s a h r).path.length<=s.length/\(usT s a h r).query.length<=s.length/\(usT s a h r).fragment.length<=s.length/\(usT s a h r).scheme.length<=s.length:=λa h r hr ha=>by grind[AP1,usT]
 split;·simp_all
 ·rename_i a r hc;have:=AmX hc;grind[AZ9]
theorem Ahs (s:B8) (hb:s.length<=1000000) (hN:20000<=N):Ku N s=some (Abw N s):=by
 unfold Ku Abw;by_cases hl:s.length>4096;·rw[ah (by simp only[au];omega),ah hl];rfl
 rw[ae (by simp only[au];omega),ae hl,ACV s hb fG,aa];obtain⟨l1,l2,l3,l4,l5⟩:=AXP s;generalize Ti s=X at *;obtain⟨U,e⟩:=X;dsimp only[AA]at *;by_cases he:(e !=0)=true;·rw[ah he,ah he];rfl
 rw[ae he,ae he];cases hS:U.hasScheme;·rfl
 rw[ah rfl,SA _ _ fG fI,aa];cases hE:(U.scheme.map CX==List.map CX [104,116,116,112,115]);·rfl
 simp only[aU,cY,aj,aq];unfold AEW;cases hA:U.hasAuthority;·rfl
 rw[ah rfl,ae fI];rw[ASm,aa];cases hat:U.authority.contains 64;rotate_left;·rfl
 rw[ae fI,ae fI,Agg _ fG fG,aa];have q1:=AMj U.authority;have q2:=ABV U.authority;generalize hpS U.authority=H at *;by_cases e1:(H.2 !=0)=true;·rw[ah e1,ah e1];rfl
 rw[ae e1,ae e1];have n1:=L6 (N:=N) U.path inP;have n2:=L6 (N:=N) U.query inQ;have n3:=L6 (N:=N) U.fragment inQ;rw[Mv U.path _ hN,aa];change (if((EN N U.path inP).2 !=0)=true then _ else _)=_;by_cases e2:((EN N U.path inP).2 !=0)=true;·rw[ah e2,ah e2];rfl
 rw[ae e2,ae e2,Mv U.query _ hN,aa];change (if((EN N U.query inQ).2 !=0)=true then _ else _)=_;by_cases e3:((EN N U.query inQ).2 !=0)=true;·rw[ah e3,ah e3];rfl
 rw[ae e3,ae e3,Mv U.fragment _ hN,aa];change (if((EN N U.fragment inQ).2 !=0)=true then _ else _)=_;by_cases e4:((EN N U.fragment inQ).2 !=0)=true;·rw[ah e4,ah e4];rfl
 rw[ae e4,ae e4];change Option.bind (JJ N (EN N U.path inP).1) _=_;rw[Am4 _ hN fG,aa];have pl:=ACU (N:=N) (EN N U.path inP).1;have hp:RN N (EN N U.path inP).1=if(M5 N (EN N U.path inP).1 []==[])=true then [47]else M5 N (EN N U.path inP).1 []:=by unfold RN;split<;>simp_all
 have fin: ∀P:B8,P=RN N (EN N U.path inP).1->((FL N (ApiURL.mk H.1.host H.1.port P (EN N U.query inQ).1 (EN N U.fragment inQ).1 U.hasQuery U.hasFrag)).bind λy25=>if(decide ((y25.length:Int)>4096))=true then (some ((ApiURL.mk [] 0 [] [] [] false false),5):Option (ApiURL×Int)) else some ((ApiURL.mk H.1.host H.1.port P (EN N U.query inQ).1 (EN N U.fragment inQ).1 U.hasQuery U.hasFrag),0))=some (if(Pt ⟨H.1.host,H.1.port,RN N (EN N U.path inP).1,(EN N U.query inQ).1,(EN N U.fragment inQ).1,U.hasQuery,U.hasFrag⟩).length>4096 then(Pf,5) else(⟨H.1.host,H.1.port,RN N (EN N U.path inP).1,(EN N U.query inQ).1,(EN N U.fragment inQ).1,U.hasQuery,U.hasFrag⟩,0)):=by
  intro P hP;subst hP;rw[Xj _ ⟨q1,by grind,by grind,by grind,by grind⟩ fG,aa];split;·rename_i AR;rw[ah (by simp only[au]at AR;omega)];rfl
  ·rename_i AR;rw[ae (by simp only[au]at AR;omega)]
 by_cases e5:(M5 N (EN N U.path inP).1 []==[])=true;·rw[ah e5]at hp⊢;exact fin _ hp.symm
 ·rw[ae e5]at hp⊢;exact fin _ hp.symm
theorem Agr (s:B8) (hb:s.length<=1000000) (hN:20000<=N):ME N s=some (Abw N s):=by
 unfold ME Abw;by_cases hl:s.length>4096;·rw[ah (by simp only[au];omega),ah hl];rfl
 rw[ae (by simp only[au];omega),ae hl,AUo s hb,aa];obtain⟨l1,l2,l3,l4,l5⟩:=AXP s;generalize Ti s=X at *;obtain⟨U,e⟩:=X;dsimp only[AA]at *;by_cases he:(e !=0)=true;·rw[ah he,ah he];rfl
 rw[ae he,ae he];cases hS:U.hasScheme;·rfl
 rw[ah rfl,SH _ _ fG fI,aa];cases hE:(U.scheme.map CX==List.map CX [104,116,116,112,115]);·rfl
 simp only[aU,cY,aj,aq];unfold AEW;cases hA:U.hasAuthority;·rfl
 rw[ah rfl,ae fI];rw[LA _ [64] fI fG,aa,AqQ fG];cases hat:U.authority.contains 64;rotate_left;·rfl
 rw[ae fI,ae fI,Aef _ fG,aa];have q1:=AMj U.authority;have q2:=ABV U.authority;generalize hpS U.authority=H at *;by_cases e1:(H.2 !=0)=true;·rw[ah e1,ah e1];rfl
 rw[ae e1,ae e1];have n1:=L6 (N:=N) U.path inP;have n2:=L6 (N:=N) U.query inQ;have n3:=L6 (N:=N) U.fragment inQ;rw[O9 U.path _ hN fI,aa];change (if((EN N U.path inP).2 !=0)=true then _ else _)=_;by_cases e2:((EN N U.path inP).2 !=0)=true;·rw[ah e2,ah e2];rfl
 rw[ae e2,ae e2,O9 U.query _ hN fI,aa];change (if((EN N U.query inQ).2 !=0)=true then _ else _)=_;by_cases e3:((EN N U.query inQ).2 !=0)=true;·rw[ah e3,ah e3];rfl
 rw[ae e3,ae e3,O9 U.fragment _ hN fI,aa];change (if((EN N U.fragment inQ).2 !=0)=true then _ else _)=_;by_cases e4:((EN N U.fragment inQ).2 !=0)=true;·rw[ah e4,ah e4];rfl
 rw[ae e4,ae e4];change Option.bind (I8 N (EN N U.path inP).1) _=_;rw[Alh _ hN fG,aa];have pl:=ACU (N:=N) (EN N U.path inP).1;have hp:RN N (EN N U.path inP).1=if(M5 N (EN N U.path inP).1 []==[])=true then [47]else M5 N (EN N U.path inP).1 []:=by unfold RN;split<;>simp_all
 have fin: ∀P:B8,P=RN N (EN N U.path inP).1->((Fh N (ApiURL.mk H.1.host H.1.port P (EN N U.query inQ).1 (EN N U.fragment inQ).1 U.hasQuery U.hasFrag)).bind λy25=>if(decide ((y25.length:Int)>4096))=true then (some ((ApiURL.mk [] 0 [] [] [] false false),5):Option (ApiURL×Int)) else some ((ApiURL.mk H.1.host H.1.port P (EN N U.query inQ).1 (EN N U.fragment inQ).1 U.hasQuery U.hasFrag),0))=some (if(Pt ⟨H.1.host,H.1.port,RN N (EN N U.path inP).1,(EN N U.query inQ).1,(EN N U.fragment inQ).1,U.hasQuery,U.hasFrag⟩).length>4096 then(Pf,5) else(⟨H.1.host,H.1.port,RN N (EN N U.path inP).1,(EN N U.query inQ).1,(EN N U.fragment inQ).1,U.hasQuery,U.hasFrag⟩,0)):=by
  intro P hP;subst hP;rw[YD _ ⟨q1,by grind,by grind,by grind,by grind⟩ fG,aa];split;·rename_i AR;rw[ah (by simp only[au]at AR;omega)];rfl
  ·rename_i AR;rw[ae (by simp only[au]at AR;omega)]
 by_cases e5:(M5 N (EN N U.path inP).1 []==[])=true;·rw[ah e5]at hp⊢;exact fin _ hp.symm
 ·rw[ae e5]at hp⊢;exact fin _ hp.symm
theorem AX6{a b:B8} (h:Mh a) (hb:(a++58::b).length<=1000000) (hN:20000<=N):Abw N (a++58::b)=Vj N a b:=by
 unfold Abw Vj;by_cases hl:(a++58::b).length>4096;·simp_all
 rw[ae hl,ae hl];have e:Ti (a++58::b)=(Vl a b,0):=cQ ((ACV (N:=N) _ hb fG).symm.trans (Anz h fG hN));rw[e,ae (show¬(((0:Int) !=0)=true) by decide),show(Vl a b).hasScheme=true from rfl,show(Vl a b).scheme=a from rfl,Aeb h];rfl
def AXT{a b:B8} (h:Mh a) (hb:(a++58::b).length<=1000000) (hN:20000<=N):Ku N (a++58::b)=some (Vj N a b):=by grind[Ahs,AX6]
def AYJ{a b:B8} (h:Mh a) (hb:(a++58::b).length<=1000000) (hN:20000<=N):ME N (a++58::b)=some (Vj N a b):=by grind[Agr,AX6]
end
end Go.VM
namespace Go.VM
section
variable{N:Nat}
def Alj (c:UInt8) (l:B8) (hb:l.length<=1000000):Be N l [c]=some (((l.takeWhile (· !=c)).length:Nat):Int):=by grind[bne,LA]
def Xq{c:UInt8}{l:B8}:((((l.takeWhile (· !=c)).length:Nat):Int)==(l.length:Int))=!l.contains c:=by grind[UL,OJ]
def YF{c:UInt8}{l:B8} (h:l.contains c=true) (hb:l.length<=1000000):sub l 0 (((l.takeWhile (· !=c)).length:Nat):Int)=some (Ac c l).1/\sub l (wr .i64 ((((l.takeWhile (· !=c)).length:Nat):Int)+1)) (l.length:Int)=some (Ac c l).2.1:=by have hlt:=OJ h;obtain⟨s1,s2⟩:=ALi h hb;rw[OM,ah h]at s1 s2;grind[wr,AO]
def Vb{c:UInt8}{l:B8}:(Ac c l).2.2=l.contains c:=by grind[Sz,HZ]
def OV:B8:=[33,36,38,39,40,41,42,43,44,59,61]
def AWq (N:Nat) (u h:B8):ApiAcct×Int:=if((EN N u OV).2 !=0||((EN N u OV).1==[]||(EN N u OV).1.head?==some 37))=true then(⟨[],[]⟩,80) else if((Jf h).2 !=0)=true then(⟨[],[]⟩,(Jf h).2)else(⟨(EN N u OV).1,(Jf h).1⟩,0)
def Uh (N:Nat) (s:B8):ApiAcct×Int:=if s.length>4096 then(⟨[],[]⟩,5) else if s.length<5 then(⟨[],[]⟩,60) else if((s.take 5).map CX==List.map CX [97,99,99,116,58])=false then(⟨[],[]⟩,60) else if(Ac 64 (s.drop 5)).2.2=false then(⟨[],[]⟩,6) else AWq N (Ac 64 (s.drop 5)).1 (Ac 64 (s.drop 5)).2.1
def AYE{α:Type} (l:B8) (e:Bool) (A B:Option α):(if e=true then A else if(l==[])=true then A else (idx l 0).bind λx9=>if((AC x9)==37)=true then A else B)=if(e||(l==[]||l.head?==some 37))=true then A else B:=by
 cases e;·cases l with |nil=>rfl| cons c t=>rw[ae fI,ae fH,show idx (c::t) 0=some c from rfl,aa,Ro];simp
 ·rfl
def Ah4 (s:B8) (hb:s.length<=1000000) (hN:20000<=N):Qb N s=some (Uh N s):=by
 unfold Qb Xp Uh;by_cases h1:s.length>4096;·rw[ah fJ,ah h1,aa];rfl
 rw[ae fJ,ae h1];dsimp only[AA];by_cases h2:s.length<5;·rw[ah fJ,ah h2,ah rfl,aa];rfl
 have hl:=Ib 64 (s.drop 5);rw[aB]at hl;rw[ae fJ,ae h2,show(0:Int)=((0:Nat):Int)from rfl,show(5:Int)=((5:Nat):Int)from rfl,BA s 0 5 fG fG,aa,ba,bV,SA _ _ (by rw[bL];omega) fI,aa,Cx fG,aa,Oo 64 _ (by rw[aB];omega),aa];cases (List.map CX (s.take 5)==List.map CX [97,99,99,116,58]);·simp only[aL,av,aa];rfl
 simp only[aU,aj,aq];cases hc:(Ac 64 (s.drop 5)).2.2;·simp only[aj,aq,av,aa];rfl
 simp only[av,aa];rw[ae fI,ae fI,Mv _ _ hN,aa,ADE _ fG,aa];change (if((EN N (Ac 64 (s.drop 5)).1 OV).2 !=0)=true then _ else if((EN N (Ac 64 (s.drop 5)).1 OV).1==[])=true then _ else Option.bind (idx (EN N (Ac 64 (s.drop 5)).1 OV).1 0) _)=_;try rw[ae (by decide: ¬(true=false))]
 unfold AWq;refine(AYE _ _ _ _).trans ?_;split;·rfl
 ·by_cases hh:((Jf (Ac 64 (s.drop 5)).2.1).2 !=0)=true;·exact(ah hh).trans (bg some (ah hh).symm)
  ·exact(ae hh).trans (bg some (ae hh).symm)
def AeK (s:B8) (hb:s.length<=1000000) (hN:20000<=N):PR N s=some (Uh N s):=by
 unfold PR Uh;by_cases h1:s.length>4096;·rw[ah fJ,ah h1]
 rw[ae fJ,ae h1];dsimp only[AA];by_cases h2:s.length<5;·rw[ah fJ,ah h2,ah rfl]
 have hl:=Ib 64 (s.drop 5);rw[aB]at hl;rw[ae fJ,ae h2,show(0:Int)=((0:Nat):Int)from rfl,show(5:Int)=((5:Nat):Int)from rfl,BA s 0 5 fG fG,aa,ba,bV,SH _ _ (by rw[bL];omega) fI,aa,Cx fG,aa,Alj 64 _ (by rw[aB];omega),aa,Xq,Vb];cases (List.map CX (s.take 5)==List.map CX [97,99,99,116,58]);·simp only[aL,av]
 simp only[aU,aj,aq];rw[ae (by decide: ¬(true=false))];cases hc:(s.drop 5).contains 64;·simp only[aL,av]
 obtain⟨s1,s2⟩:=YF hc (by rw[aB];omega);simp only[aU,aj,aq];rw[show((0:Nat):Int)=0 from rfl,s1,aa,O9 _ _ hN fI,aa,s2,aa,ADi,aa];change (if((EN N (Ac 64 (s.drop 5)).1 OV).2 !=0)=true then _ else if((EN N (Ac 64 (s.drop 5)).1 OV).1==[])=true then _ else Option.bind (idx (EN N (Ac 64 (s.drop 5)).1 OV).1 0) _)=_;unfold AWq;refine(AYE _ _ _ _).trans ?_;split;·rfl
 ·by_cases hh:((Jf (Ac 64 (s.drop 5)).2.1).2 !=0)=true;·exact(ah hh).trans (bg some (ah hh).symm)
  ·exact(ae hh).trans (bg some (ae hh).symm)
def AFO (a:ApiAcct):B8:=(([97,99,99,116,58]++a.user)++[64])++a.host
def Ac5 (a:ApiAcct) (h:a.user.length<=1000000/\a.host.length<=1000000):PO N a=some (AFO a):=by unfold PO AFO;rw[BV fJ,BV fJ,BV fJ]
def AcB (a:ApiAcct) (h:a.user.length<=1000000/\a.host.length<=1000000):OY N a=some (AFO a):=by unfold OY AFO;rw[BV fJ,BV fJ,BV fJ]
def Y7 (s:B8):(Uh N s).1.user.length<=4096/\(Uh N s).1.host.length<=253:=by
 have hh:=SB (Ac 64 (s.drop 5)).2.1;have hn:=L6 (N:=N) (Ac 64 (s.drop 5)).1 OV;have hl:=Ib 64 (s.drop 5);rw[aB]at hl;unfold Uh AWq;split;·simp
 split;·simp
 split;·simp
 split;·simp
 split;·simp
 split;·simp
 ·dsimp only;omega
end
end Go.VM
