import Derived.Test.YtfbofngnmfcomaaGreatDoorL2
set_option linter.defProp false
set_option linter.unusedVariables false
set_option linter.unusedSimpArgs false
namespace Go.VM
section
variable{N:Nat}
def AUI{out:B8}{bq:List Int} (h:List.take out.length bq=List.map AJ out):List.take (KS out).length bq=List.map AJ (KS out):=by
 have hle:=UZ out;have e:List.take (KS out).length (List.take out.length bq)=List.take (KS out).length bq:=by rw[fk,fc hle]
 rw[<-e,h];unfold KS;split;·rename_i i hi;have:=Wv hi;rw[ba,fc fx,ft]
 ·simp
def AjD (out:B8) (v:Int) (hv:v=(match PU out out.length with|some i=>(i:Int)|none=> -1)):(if v>0 then v else 0).toNat=(KS out).length/\0<=(if v>0 then v else 0)/\(if v>0 then v else 0)<=(out.length:Int):=by subst hv;unfold KS;cases h:PU out out.length with|none=>simp|some i=>have:=Wv h;simp only[ba];split<;>omega
theorem Ls {M:Nat} (hM:M<=100000) (hN:M+100<=N): ∀(k:Nat) (s out:B8) (bq:List Int),s.length<k->s.length+out.length<=M->out.length<=bq.length->List.take out.length bq=List.map AJ out->Al N k s out.length bq=some (KQ k s out)
 |0,s,out,bq,h,_,_,_=>by omega
 | k+1,s,out,bq,hk,hb,hl,ht=>by
  rw[Al,KQ];have hchr:List.map FX (List.take out.length bq)=out:=by rw[ht,QO]
  have hso:=UZ out;by_cases h0:s=[];·rw[aq (by grind),aq h0,AU ⟨hl,by grind[AL]⟩,hchr]
  have hpos:0<s.length:=dy.2 h0;rw[an (by grind),an h0,UG,aa];by_cases h1:preB [46,46,47] s=true;·have:=Qr h1;simp only[ag,ap]at this;rw[aq h1,aq h1,show(3:Int)=((3:Nat):Int)from rfl,Bw fx,aa];exact Ls hM hN k _ out bq (by grind) (by grind) hl ht
  rw[an h1,an h1,UG,aa];by_cases h2:preB [46,47] s=true;·have:=Qr h2;simp only[ag,ap]at this;rw[aq h2,aq h2,show(2:Int)=((2:Nat):Int)from rfl,Bw fx,aa];exact Ls hM hN k _ out bq (by grind) (by grind) hl ht
  rw[an h2,an h2,UG,aa];by_cases h3:preB [47,46,47] s=true;·have:=Qr h3;simp only[ag,ap]at this;rw[aq h3,aq h3,show(2:Int)=((2:Nat):Int)from rfl,Bw fx,aa];exact Ls hM hN k _ out bq (by grind) (by grind) hl ht
  rw[an h3,an h3];by_cases h4:s=[47,46];·rw[aq (by grind),aq h4];have:=bu List.length h4;simp only[ag,ap]at this;exact Ls hM hN k _ out bq (by grind) (by grind) hl ht
  rw[an (by grind),an h4];dsimp only[AC];rw[UG,aa];have hcut: ∀s2:B8,s2.length<k->s2.length+out.length<=M->∀(v:Int),v=(match PU out out.length with|some i=>(i:Int)|none=> -1)->grd (0<=(if v>0 then v else 0)/\(if v>0 then v else 0)<=(out.length:Int)) (Al N k s2 ((if v>0 then v else 0).toNat) bq)=some (KQ k s2 (KS out)):=by intro s2 hs2 hs3 v hv;obtain⟨e1,e2,e3⟩:=AjD out v hv;rw[AU ⟨e2,e3⟩,e1];exact Ls hM hN k s2 (KS out) bq hs2 fx fx (AUI ht)
  have htail: ∀s2:B8,s2.length<k->s2.length+out.length<=M->(grd (out.length<=bq.length/\AL out.length) ((strings_LastIndexByte N (List.map FX (List.take out.length bq)) 47).bind λy20=>grd (0<=(if y20>0 then y20 else 0)/\(if y20>0 then y20 else 0)<=(out.length:Int)) (Al N k s2 ((if y20>0 then y20 else 0).toNat) bq)))=some (KQ k s2 (KS out)):=by intro s2 hs2 hs3;rw[AU ⟨hl,by grind[AL]⟩,hchr,ADW out fx fx,aa];exact hcut s2 hs2 hs3 _ rfl
  by_cases h5:preB [47,46,46,47] s=true
  ·obtain⟨t,rfl⟩:=Po h5;have e3:([47,46,46,47]++t:B8).drop 3=47::t:=rfl;have ep:preB [47] (47::t)=true:=by simp_all[preB]
   simp only[ah,ag,ap]at hk hb;rw[aq h5,aq h5,aq rfl,show(3:Int)=((3:Nat):Int)from rfl,Bw fy,aa,e3,AR4,aq ep,aa,BU fB];exact htail (47::t) (by grind) (by grind)
  rw[an h5,an h5];by_cases h6:s=[47,46,46];·subst h6;simp only[ag,ap]at hk hb;rw[aq (by rfl),aq rfl,show(3:Int)=((3:Nat):Int)from rfl,Bw fy,aa,AR4,an fA,aa,BU fy];exact htail [47] (by grind) (by grind)
  rw[an (by grind),an h6];have hdd:(if(s==([46]:B8))=true then Al N k [] out.length bq else if(s==([46,46]:B8))=true then Al N k [] out.length bq else(sub s 1 (s.length:Int)).bind λx26=>(strings_IndexByte N x26 47).bind λy27=>if((wr .i64 (1+y27))==0)=true then(sub s 0 (s.length:Int)).bind λx33=>grd (out.length<=bq.length/\Ac (out.length+x33.length) 1) ((sub s (s.length:Int) (s.length:Int)).bind λx35=>Al N k x35 (out.length+x33.length) (List.take out.length bq++List.map AJ x33))else(sub s 0 (wr .i64 (1+y27))).bind λx33=>grd (out.length<=bq.length/\Ac (out.length+x33.length) 1) ((sub s (wr .i64 (1+y27)) (s.length:Int)).bind λx35=>Al N k x35 (out.length+x33.length) (List.take out.length bq++List.map AJ x33)))=some (if s=[46]\/s=[46,46]then KQ k [] out else KQ k (s.drop (OC s)) (out++s.take (OC s))):=by
   have hrec:=Ls hM hN k [] out bq (by grind) (by grind) hl ht;by_cases h7:s=[46];·simp_all
   by_cases h8:s=[46,46];·simp_all
   have hsl:=AfY h0;have h1s:1<=OC s:=by grind[OC]
   rw[an (by grind),an (by grind),an (by grind),show(1:Int)=((1:Nat):Int)from rfl,Bw fx,aa,show(47:Int)=AJ 47 from rfl,NA,aa,O7];have fin:((sub s 0 ((OC s:Nat):Int)).bind λx33=>grd (out.length<=bq.length/\Ac (out.length+x33.length) 1) ((sub s ((OC s:Nat):Int) (s.length:Int)).bind λx35=>Al N k x35 (out.length+x33.length) (List.take out.length bq++List.map AJ x33)))=some (KQ k (s.drop (OC s)) (out++s.take (OC s))):=by rw[show(0:Int)=((0:Nat):Int)from rfl,Av s 0 _ (aJ _) hsl,aa,AU ⟨hl,Tw (by grind)⟩,Bw hsl,aa,aL,bo,ht];have hlen:out.length+(List.take (OC s) s).length=(out++List.take (OC s) s).length:=fy;rw[hlen];exact Ls hM hN k _ (out++s.take (OC s)) _ (by grind) (by grind) fy (by grind[List.take_of_length_le])
   by_cases hc:(s.drop 1).contains 47=true
   ·have e:wr .i64 (((1:Nat):Int)+(((s.drop 1).takeWhile (· !=47)).length:Int))=((OC s:Nat):Int):=by unfold OC at hsl⊢;rw[Aq fx];omega
    rw[aq hc,e,an (by grind)];omega
   ·rw[an hc,aq (by rfl)];have hc':(s.drop 1).contains 47=false:=by grind
    have e:OC s=s.length:=by grind[Tp,OC,List.length_drop]
    simp_all
  simp_all
def Anc (s:B8) (hN:20000<=N) (hb:s.length<=16380):C8 N s=some (KQ N s []):=by unfold C8;rw[AU (by grind[Sr])];have:=Ls (N:=N) (M:=16380) fx fx N s [] (List.replicate (0:Int).toNat 0) fx fB fy fy;grind
def ABM (s:B8) (hN:100000<=N) (hb:s.length<=40000):C8 N s=some (KQ N s []):=by unfold C8;rw[AU (by grind[Sr])];have:=Ls (N:=N) (M:=40000) fx fx N s [] (List.replicate (0:Int).toNat 0) fx fB fy fy;grind
theorem NN: ∀(k:Nat) (s out:B8),(KQ k s out).length<=s.length+out.length
 |0,s,out=>by simp[KQ]
 |k+1,s,out=>by
  have hso:=UZ out;rw[KQ];split;·omega
  split;·have:=NN k (s.drop 3) out;grind
  split;·have:=NN k (s.drop 2) out;grind
  split;·have:=NN k (s.drop 2) out;grind
  split;·rename_i h;have:=NN k [47] out;grind
  split;·have:=NN k (s.drop 3) (KS out);grind
  split;·rename_i h;have:=NN k [47] (KS out);grind
  split;·have:=NN k [] out;grind
  ·have:=NN k (s.drop (OC s)) (out++s.take (OC s));grind
end
end Go.VM
namespace Go.VM
section
variable{N:Nat}
def RJ (a:B8):Prop:=a.map E9=[104,116,116,112,115]
def X4{a:B8} (h:RJ a):a.length=5/\∀x,x∈a->NR x=true/\x.toNat<128/\x≠35/\x≠63/\x≠47/\x≠58/\x≠64:=by
 refine⟨by have:=bu List.length h;simp_all,λx Bp=>?_⟩;have hm:E9 x∈([104,116,116,112,115]:B8):=by rw[<-h];grind
 have key:=Cq (f:=λn=>(!([104,116,116,112,115]:B8).contains (E9 (UInt8.ofNat n)))||(AAA n&&decide (n<128)&&decide (n≠35)&&decide (n≠63)&&decide (n≠47)&&decide (n≠58)&&decide (n≠64))) (g:=λ_=>true) (by kernel_rfl) x;simp only[ce]at key;rw[show([104,116,116,112,115]:B8).contains (E9 x)=true by grind]at key;simp only[bL,bg,av,aw]at key;obtain⟨⟨⟨⟨⟨⟨k1,k2⟩,k3⟩,k4⟩,k5⟩,k6⟩,k7⟩:=key;refine⟨k1,k2,?_,?_,?_,?_,?_⟩<;>(rintro rfl;simp_all)
def AYl{c:UInt8}: ∀(pre t:B8),(∀x,x∈pre->x≠c)->BI c (pre++t)=(pre++(BI c t).1,(BI c t).2)
 |[],t,_=>rfl
 |x::pre,t,h=>by
  have ih:=AYl pre t λy hy=>h y (by grind);have Bp:x≠c:=h x fy;have e1:(c==x)=false:=by grind
  have e2:(x !=c)=true:=by grind
  rw[bm];cases hc:(pre++t).contains c;·rw[Vz (by rw[bC,e1,hc];rfl)];rw[Vz hc]at ih;simp only[az]at ih;obtain⟨i1,i2⟩:=ih;rw[bm,<-i1,<-i2]
  ·rw[Rj (by grind),bb,e2,bZ,e2];rw[Rj hc]at ih;simp_all
def AwE{α:Type} (c:UInt8) (l:B8) (hb:l.length<=1000000) (k:B8×B8×Bool->Option α):((BQ N l [c]).bind λy=>if(decide (y<(l.length:Int)))=true then(sub l (wr .i64 (y+1)) (l.length:Int)).bind λx7=>(sub l 0 y).bind λx8=>k (x8,x7,true)else k (l,[],false))=k (BI c l):=by
 have hw:(λx:UInt8=>!([c]:B8).contains x)=(λx=>x !=c):=by grind
 rw[OH l [c] fy fx,aa,hw];cases hc:l.contains c;·rw[Tp l hc,an fy,Vz hc]
 ·have hlt:=RX hc;obtain⟨s1,s2⟩:=AMI hc hb;rw[O7,aq hc]at s1 s2;have w0:wr .i64 (((l.takeWhile (· !=c)).length:Int)+0)=((l.takeWhile (· !=c)).length:Int):=by grind[Aq]
  rw[w0]at s1;rw[aq (by grind),show((1:Int))=(([c]:B8).length:Int)from rfl,s2,aa,s1,aa,Rj hc]
def N7 (r:B8):B8×B8×Bool:=if preB [47,47] r=true then((r.drop 2).dropWhile (· !=47),(r.drop 2).takeWhile (· !=47),true)else(r,[],false)
def AbG (a b:B8):ApiURI:=⟨a,(N7 (BI 63 (BI 35 b).1).1).2.1,(N7 (BI 63 (BI 35 b).1).1).1,(BI 63 (BI 35 b).1).2.1,(BI 35 b).2.1,true,(N7 (BI 63 (BI 35 b).1).1).2.2,(BI 63 (BI 35 b).1).2.2,(BI 35 b).2.2⟩
def We (k2:Unit->Option Bool): ∀(l:B8) (i:Int),(∀x,x∈l->NR x=true)->DI N k2 l i=k2 ()|[],i,_=>by rw[DI]|c::l,i,h=>by rw[DI];dsimp only[AC];rw[UY,aa,h c fy,aq rfl,an fA];exact We k2 l (i+1) λx Bp=>h x (by grind)
def AUn{a:B8} (h:RJ a):Ki N a=some true:=by obtain⟨h5,hl⟩:=X4 h;unfold Ki;rw[AC,BU fx,We _ a 0 λx Bp=>(hl x Bp).1];cases a with|nil=>grind|cons _ _=>rfl
def AuN{p:UInt8->Bool}: ∀(a:B8){x:UInt8}{t:B8},(∀y,y∈a->p y=true)->p x=false->(a++x::t).takeWhile p=a|[],x,t,_,Bp=>by rw[bk,bb,Bp];rfl|y::a,x,t,h,Bp=>by simp_all
def Apb{a:B8} (h:RJ a): ∀y,y∈a->(!([58,47]:B8).contains y)=true:=λy hy=>by obtain⟨_,_,_,_,k5,k6,_⟩:=(X4 h).2 y hy;grind
def AgH{α:Type}{d:JD Int} (r:B8) (hb:r.length<=1000000) (k:B8×B8×Bool->Option α):((strings_CutPrefix N r ([47,47]:B8)).bind λy24=>if y24.2=true then(strings_IndexByte N y24.1 47).bind λy26=>AA (λj28:Int=>(sub y24.1 0 j28).bind λx32=>(sub y24.1 j28 (y24.1.length:Int)).bind λx33=>k (x33,x32,true)) (λk29=>if(decide (y26<0))=true then k29 (y24.1.length:Int)else k29 y26) d else k (r,[],false))=k (N7 r):=by
 rw[AYp,aa];unfold N7;by_cases h:preB [47,47] r=true
 ·rw[aq h,aq h];simp only[aD,ag,ap];rw[show(47:Int)=AJ 47 from rfl,NA,aa,O7,AC];generalize hq:r.drop (0+1+1)=q;have hql:q.length<=1000000:=by grind
  cases hc:q.contains 47
  ·have hd:q.dropWhile (· !=(47:UInt8))=[]:=by have e:=bA (p:=(· !=(47:UInt8))) (l:=q);rw[Tp q hc]at e;simp_all
   simp only[aj,aA];rw[aq fA,show(0:Int)=((0:Nat):Int)from rfl,Av q 0 _ (aJ _) (au _),aa,Bw (au _),aa,Tp q hc,hd];simp
  ·have hlt:=RX hc;simp only[aD];rw[an fy,show(0:Int)=((0:Nat):Int)from rfl,Av q 0 _ (aJ _) fx,aa,Bw fx,aa,aL,bo,Ho,Ke]
 simp_all
def ArJ{α:Type} (r:B8) (hb:r.length<=1000000) (k:B8×B8×Bool->Option α):((EK N r ([47,47]:B8)).bind λy36=>if y36=true then(sub r 2 (r.length:Int)).bind λx38=>(BQ N x38 ([47]:B8)).bind λy39=>(sub r 2 (wr .i64 (2+y39))).bind λx41=>(sub r (wr .i64 (2+y39)) (r.length:Int)).bind λx42=>k (x42,x41,true)else k (r,[],false))=k (N7 r):=by
 have hw:(λx:UInt8=>!([47]:B8).contains x)=(λx=>x !=47):=by grind
 rw[Wn,aa];unfold N7;by_cases h:preB [47,47] r=true
 ·have hl:=Qr h;simp only[ag,ap]at hl;have hle:=Ri (· !=(47:UInt8)) (r.drop 2);rw[aN]at hle;rw[aq h,aq h,show(2:Int)=((2:Nat):Int)from rfl,Bw fx,aa,OH _ [47] fy (by grind),aa,hw];have e:wr .i64 (((2:Nat):Int)+(((r.drop 2).takeWhile (λx=>x !=47)).length:Int))=((2+((r.drop 2).takeWhile (λx=>x !=47)).length:Nat):Int):=by grind[Aq]
  rw[e,Av r 2 _ fx fx,aa,Bw fx,aa,show 2+((r.drop 2).takeWhile (λx=>x !=47)).length-2=((r.drop 2).takeWhile (λx=>x !=47)).length by omega,Ho,<-aY,Ke]
 simp_all
def ArO{c:UInt8}{a b:B8} (h: ∀x,x∈a->x≠c) (hc:(58:UInt8)≠c):BI c (a++58::b)=(a++58::(BI c b).1,(BI c b).2):=by
 rw[show a++58::b=(a++[58])++b by simp,AYl (a++[58]) b (by
  intro x Bp;simp only[aX,aP,dQ,eT]at Bp;rcases Bp with Bp|rfl;·exact h x Bp
  ·exact hc)];simp
def AnN{a b:B8} (h:RJ a) (hb:(a++58::b).length<=16384) (hN:20000<=N):Lg N (a++58::b)=some (AbG a b,0):=by
 obtain⟨h5,hl⟩:=X4 h;simp only[ah,ag]at hb;have hc1:=Mj 35 b;have hc2:=Mj 63 (BI 35 b).1;unfold Lg AbG;rw[an (by simp only[ah,ag,aw];omega),SK 35 _ (by grind),aa,ArO (c:=35) (λx Bp=>(hl x Bp).2.2.1) fA,SK 63 _ (by grind),aa,ArO (c:=63) (λx Bp=>(hl x Bp).2.2.2.1) fA];dsimp only;generalize (BI 63 (BI 35 b).1)=d at *;obtain⟨r,q,hq⟩:=d;dsimp only at *;have hset:=Apb h;have htw:((a++58::r).takeWhile λc=>!([58,47]:B8).contains c)=a:=AuN a hset fA;have hany:(a++58::r).any ([58,47]:B8).contains=true:=fy;refine(JA (a:=(r,a,true)) λk=>?_).trans ?_;·rw[X3 fA fA fA (by grind) (by grind) fx,aa];unfold ZU;rw[aq hany,htw];have hget:(a++58::r)[a.length]?=some 58:=fy;dsimp only[AC];rw[aq fy,Ei,hget,aa,aq fA,show(0:Int)=((0:Nat):Int)from rfl,Av _ 0 _ (aJ _) fy,aa,aL,bo,eA,AUn h,aa,aq rfl,show wr .i64 ((a.length:Int)+1)=((a.length+1:Nat):Int) by grind[Aq],Bw fy,aa];simp
 ·dsimp only;refine(JA (a:=N7 r) λk=>AgH r fx k).trans ?_;rfl
end
end Go.VM
namespace Go.VM
section
variable{N:Nat}
def AZy (c:UInt8):Bool:=([43,45,46]:B8).contains c
def AUF (c:UInt8):Bool:=NR c||(Gu c||AZy c)
def ACB:B8->Bool|[]=>false|c::t=>NR c&&t.all AUF
def NH (c:UInt8):Bool:=!([58,47]:B8).contains c
def ADa (set:B8): ∀l:B8,l.any set.contains=!((l.dropWhile λc=>!set.contains c)==[])
 |[]=>rfl
 |c::l=>by
  rw[cP,bZ];cases h:set.contains c;·rw[bg,ADa set l];rfl
  ·simp
def ABc (d:B8):Option (B8×B8):=if(d.dropWhile NH).head?=some 58 then some (d.takeWhile NH,(d.dropWhile NH).drop 1)else none
def Aav:ApiURI:=⟨[],[],[],[],[],false,false,false,false⟩
def usT (s:B8) (a:B8) (h:Bool) (d:B8):ApiURI:=⟨a,(N7 d).2.1,(N7 d).1,(BI 63 (BI 35 s).1).2.1,(BI 35 s).2.1,h,(N7 d).2.2,(BI 63 (BI 35 s).1).2.2,(BI 35 s).2.2⟩
def Mv (s:B8):ApiURI×Int:=if s.length>16384 then(Aav,5)else match ABc (BI 63 (BI 35 s).1).1 with|none=>(usT s [] false (BI 63 (BI 35 s).1).1,0)|some (a,r)=>if ACB a=true then(usT s a true r,0)else(Aav,6)
def AwC (c:UInt8):decide (Go.Lib.indexByte ([43,45,46]:B8) c<0)=!AZy c:=by grind[AZy,Go.Lib.indexByte]
def AC8 (k2:Unit->Option Bool): ∀(l:B8) (i:Int),1<=i->DI N k2 l i=if l.all AUF=true then k2 ()else some false
 |[],i,_=>by grind[DI]
 | c::l,i,h=>by
  have ih:=AC8 k2 l (i+1) fx;have h0:(i==0)=false:=by grind
  rw[DI];dsimp only[AC];rw[UY,aa,bl];unfold AUF at *;cases NR c
  ·rw[an fA,h0,an fA,Zc,aa];cases Gu c;·rw[an fA,NA,aa,AwC];cases AZy c<;>simp_all[AZy]
   simp_all
  simp_all
def AqF{a:B8} (hb:a.length<=1000000):Ki N a=some (ACB a):=by
 unfold Ki ACB;rw[AC,BU fx];cases a with
 |nil=>grind[DI]
 |cons c t=>
  rw[DI];dsimp only[AC];rw[UY,aa];cases NR c;·rfl
  ·rw[aq rfl,an fA,AC8 _ t _ fx];cases t.all AUF<;>rfl
def ADQ (k2:Unit->Option Bool): ∀(l:B8) (i:Int),1<=i->Dq N k2 l i=if l.all AUF=true then k2 ()else some false
 |[],i,_=>by grind[Dq]
 | c::l,i,h=>by
  have ih:=ADQ k2 l (i+1) fx;have h0:(i==0)=false:=by grind
  rw[Dq];dsimp only[AC];rw[YI,aa,bl];unfold AUF at *;cases NR c
  ·rw[an fA,h0,an fA,Zg,aa];cases Gu c
   ·rw[an fA,AXK _ _ fA,aa];unfold AZy;cases ([43,45,46]:B8).contains c;·rfl
    ·rw[an fA,ih];rfl
   simp_all
  simp_all
def AnK{a:B8} (hb:a.length<=1000000):Ll N a=some (ACB a):=by
 unfold Ll ACB;rw[AC,BU fx];cases a with
 |nil=>grind[Dq]
 |cons c t=>
  rw[Dq];dsimp only[AC];rw[YI,aa];cases NR c;·rfl
  ·rw[aq rfl,an fA,ADQ _ t _ fx];cases t.all AUF<;>rfl
def Ye{α:Type} (d:B8) (e:Option α) (k:B8×B8×Bool->Option α):Option α:=match ABc d with|none=>k (d,[],false)|some (a,r)=>if ACB a=true then k (r,a,true)else e
def Tc (d:B8):d.takeWhile NH++d.dropWhile NH=d:=bA
theorem Ach{α:Type}{d:B8} (hb:d.length<=1000000) (hN:20<=N) (e:Option α) (k:B8×B8×Bool->Option α){D:JD Bool}:((strings_IndexAny N d ([58,47]:B8)).bind λy9=>AA (λj11:Bool=>if j11=true then(sub d 0 y9).bind λx16=>(Ki N x16).bind λy17=>if y17=true then(sub d (wr .i64 (y9+1)) (d.length:Int)).bind λx19=>k (x19,x16,true)else e else k (d,[],false)) (λk12=>if(decide (y9>=0))=true then(idx d y9).bind λx15=>k12 ((AJ x15)==58)else k12 false) D)=Ye d e k:=by
 rw[Abo hb hN,aa];dsimp only[AC];unfold ZU Ye ABc;rw[ADa];change _=_;have hw:(d.takeWhile λc=>!([58,47]:B8).contains c)=d.takeWhile NH:=rfl;have hd:(d.dropWhile λc=>!([58,47]:B8).contains c)=d.dropWhile NH:=rfl;rw[hw,hd];have hs:=Tc d;cases Bp:d.dropWhile NH with
 |nil=>rfl
 | cons c t=>
  have hlen:d.length=(d.takeWhile NH).length+(t.length+1):=by have:=bu List.length hs;grind
  have hget:d[(d.takeWhile NH).length]?=some c:=by grind
  rw[show(!((c::t)==([]:B8)))=true from rfl,aq rfl,aq fy,Ei,hget,aa,List.head?_cons];by_cases h:c=58
  ·subst h;rw[aq fA,aq rfl,show(0:Int)=((0:Nat):Int)from rfl,Av _ 0 _ (aJ _) fx,aa,aL,bo,Ho,AqF fx,aa];dsimp only;cases ACB (d.takeWhile NH);·rfl
   ·rw[aq rfl,aq rfl,show wr .i64 (((d.takeWhile NH).length:Int)+1)=(((d.takeWhile NH).length+1:Nat):Int) by grind[Aq],Bw fx,aa,<-aY,Ke,Bp]
  ·have hb':((AJ c)==58)=false:=by rw[show(58:Int)=AJ 58 from rfl,Ak7];grind
   simp_all
theorem Ack{α:Type}{d:B8} (hb:d.length<=1000000) (e:Option α) (k:B8×B8×Bool->Option α){D:JD Bool}:((BQ N d ([58,47]:B8)).bind λy9=>AA (λj11:Bool=>if j11=true then(sub d 0 y9).bind λx16=>(Ll N x16).bind λy17=>if y17=true then(sub d (wr .i64 (y9+1)) (d.length:Int)).bind λx19=>k (x19,x16,true)else e else k (d,[],false)) (λk12=>if(decide (y9<(d.length:Int)))=true then(idx d y9).bind λx15=>k12 ((AJ x15)==58)else k12 false) D)=Ye d e k:=by
 rw[OH _ _ fA fx,aa];dsimp only[AC];unfold Ye ABc;have hw:(d.takeWhile λc=>!([58,47]:B8).contains c)=d.takeWhile NH:=rfl;rw[hw];have hs:=Tc d;cases Bp:d.dropWhile NH with
 |nil=>simp_all
 | cons c t=>
  have hlen:d.length=(d.takeWhile NH).length+(t.length+1):=by have:=bu List.length hs;grind
  have hget:d[(d.takeWhile NH).length]?=some c:=by grind
  rw[aq (by grind),Ei,hget,aa,List.head?_cons];by_cases h:c=58
  ·subst h;rw[aq fA,aq rfl,show(0:Int)=((0:Nat):Int)from rfl,Av _ 0 _ (aJ _) fx,aa,aL,bo,Ho,AnK fx,aa];dsimp only;cases ACB (d.takeWhile NH);·rfl
   ·rw[aq rfl,aq rfl,show wr .i64 (((d.takeWhile NH).length:Int)+1)=(((d.takeWhile NH).length+1:Nat):Int) by grind[Aq],Bw fx,aa,<-aY,Ke,Bp]
  ·have hb':((AJ c)==58)=false:=by rw[show(58:Int)=AJ 58 from rfl,Ak7];grind
   simp_all
def AS0{α β:Type}{K:α->Option β}{body:(α->Option β)->Option β}{d:JD α}{X:(α->Option β)->Option β} (h: ∀k:α->Option β,body k=X k):AA K body d=X K:=h K
def SH (s:B8) (hb:s.length<=1000000) (hN:20<=N):Lg N s=some (Mv s):=by
 have hc1:=Mj 35 s;have hc2:=Mj 63 (BI 35 s).1;unfold Lg Mv;by_cases h:s.length>16384;·rw[aq (by grind),aq h];rfl
 rw[an (by grind),an h,SK 35 _ fx,aa,SK 63 _ fx,aa];generalize hd:(BI 63 (BI 35 s).1).1=d at *;refine(AS0 (X:=λk=>Ye d (some (Aav,6)) k) λk=>Ach fx hN _ k).trans ?_;unfold Ye;cases hcol:ABc d with
 |none=>dsimp only;refine(JA (a:=N7 d) λk=>AgH d fx k).trans ?_;rfl
 | some p=>
  obtain⟨a,r⟩:=p;dsimp only;cases ACB a;·rfl
  ·have hr:r.length<=d.length:=by
    unfold ABc at hcol;split at hcol;·cases hcol;have:=bu List.length (Tc d);grind
    grind
   rw[aq rfl,aq rfl];refine(JA (a:=N7 r) λk=>AgH r fx k).trans ?_;rfl
def Vq (s:B8) (hb:s.length<=1000000):Kb N s=some (Mv s):=by
 have hc1:=Mj 35 s;have hc2:=Mj 63 (BI 35 s).1;unfold Kb Mv;by_cases h:s.length>16384;·rw[aq (by grind),aq h];rfl
 rw[an (by grind),an h];refine(JA (a:=BI 35 s) λk=>AwE 35 _ fx k).trans ?_;refine(JA (a:=BI 63 (BI 35 s).1) λk=>AwE 63 _ fx k).trans ?_;generalize hd:(BI 63 (BI 35 s).1).1=d at *;refine(AS0 (X:=λk=>Ye d (some (Aav,6)) k) λk=>Ack fx _ k).trans ?_;unfold Ye;cases hcol:ABc d with
 |none=>dsimp only;refine(JA (a:=N7 d) λk=>ArJ d fx k).trans ?_;rfl
 | some p=>
  obtain⟨a,r⟩:=p;dsimp only;cases ACB a;·rfl
  ·have hr:r.length<=d.length:=by
    unfold ABc at hcol;split at hcol;·cases hcol;have:=bu List.length (Tc d);grind
    grind
   rw[aq rfl,aq rfl];refine(JA (a:=N7 r) λk=>ArJ r fx k).trans ?_;rfl
end
end Go.VM
namespace Go.VM
section
variable{N:Nat}
def ADJ (k4:Unit->Option Bool): ∀ps:List B8,(∀p,p∈ps->p.length<=2^60)->GQ N k4 ps=if(ps.all λp=>(Du 255 p).2==0)=true then k4 ()else some false|[],_=>by grind[GQ]|p::ps,h=>by rw[GQ,show(255:Int)=((255:Nat):Int)from rfl,VT fA p (h p fy),aa,ADJ k4 ps λq hq=>h q (by grind),bl];cases hx:((Du 255 p).2==0)<;>simp[bne,hx]
def Aoq (l:B8) (hb:l.length<=1000000):O6 N l=some (AXN l):=by
 have hl:=OA 46 l;have hp:=ND 46 l;unfold O6;rw[ADr l 46 hb,aa];dsimp only[AC];rw[BU fx,ADJ _ _ λp h=>by grind];unfold AXN;have e:(((Bb 46 l).length:Int) !=4)=!decide ((Bb 46 l).length=4):=by grind
 rw[e];cases decide ((Bb 46 l).length=4)<;>cases ((Bb 46 l).all λp=>(Du 255 p).2==0)<;>simp
def Ak1 (l:B8) (hN:300<=N):Rz N l=some (Qq l):=by
 unfold Rz Qq;by_cases h:l=[];·grind
 rw[an (by grind),an h];by_cases h2:l.length>253;·rw[aq (by simp only[aw];omega),aq h2]
 rw[an (by simp only[aw];omega),an h2];dsimp only[AC];rw[Aoq l fx,aa,AiG l fx fx,aa,lower_eq l fx,aa];cases AXN l<;>cases U0 l<;>rfl
def Atr (l:B8) (hN:300<=N) (hb:l.length<=1000000):OI N l=some (hpS l):=by
 have hle:=Mj 58 l;unfold OI hpS;rw[SK 58 l fx,aa,Ak1 _ hN,aa];dsimp only[AC];rw[Afp _ fx,aa];by_cases h:((Qq (BI 58 l).1).2 !=0)=true;·grind
 ·rw[an h,an h];cases (BI 58 l).2.2;·rfl
  ·simp only[aD];by_cases hp:((Sm (BI 58 l).2.1).2 !=0)=true;·simp_all
   ·rw[an hp,an hp];split<;>rfl
def VV (p:Int):Prop:=0<=p/\p<=65535
theorem AhP (l:B8):VV (Sm l).1:=by grind[TP,Sm,VV]
def AW7 (l:B8):VV (hpS l).1.port:=by grind[AhP,BI,hpS,VV]
theorem AaI (l:B8):(Qq l).1.length<=253:=by grind[Qq]
def AKi (l:B8):(hpS l).1.host.length<=253:=by grind[AaI,BI,hpS]
def hpF (h:B8) (p:Int):B8:=if p=0 then h else h++[58]++fmtS p.toNat
def ANa (h:B8) (p:Int):(hpF h p).length<=h.length+21:=by grind[ABN,hpF]
def AqE (h:B8) (p:Int) (hp:VV p) (hb:h.length<=1000000) (hN:20<=N):Ox N ⟨h,p⟩=some (hpF h p):=by
 have hl:=ABN p.toNat;obtain⟨h1,h2⟩:=hp;unfold Ox hpF;by_cases h0:p=0;·simp_all
 ·rw[an (by grind),an h0,an (by grind)];have e:wr .u64 p=((p.toNat:Nat):Int):=by rw[Fx fx];omega
  simp only[e];rw[AXW p.toNat fx hN,aa,BU fB,BU fB]
def ApN (h:B8) (p:Int) (hp:VV p) (hb:h.length<=1000000) (hN:20<=N):Nj N ⟨h,p⟩=some (hpF h p):=by
 have hl:=ABN p.toNat;obtain⟨h1,h2⟩:=hp;unfold Nj CK hpF;by_cases h0:p=0;·simp_all
 ·rw[an (by grind),an h0];have e:wr .u64 p=((p.toNat:Nat):Int):=by grind[Fx]
  simp only[e];rw[an (by grind),ATs p.toNat fx hN,aa,aa,BU (by grind),BU (by grind)]
end
end Go.VM
namespace Go.VM
section
variable{N:Nat}
def AhX (c:UInt8) (l:B8):strings_Contains N l [c]=some (l.contains c):=by unfold strings_Contains;rw[AYr,aa,Kj]
def Auf{c:UInt8}{l:B8} (hb:l.length<=1000000):decide ((((l.takeWhile λx=>!([c]:B8).contains x).length:Nat):Int)<(l.length:Int))=l.contains c:=by grind[bne,Tp,RX]
theorem AHC (also:B8): ∀(k:Nat) (t out:B8),(Xh also k t out).1.length<=out.length+t.length
 |0,t,out=>by simp[Xh]
 |k+1,[],out=>by simp[Xh]
 | k+1,c::t,out=>by
  rw[Xh];split;·cases h:AFQ t with|none=>simp|some x=>have h2:=AJ7 h;have:=AHC also k (t.drop 2) (out++(if PL x=true then [x]else X8 x));grind[PL,X8]
  ·split;·have:=AHC also k t (out++[c]);grind
   ·simp
def MW (s also:B8):(EA N s also).1.length<=s.length:=by grind[EA,AHC]
def ML (u:ApiURL):B8:=if u.hasQuery=true then u.path++[63]++u.query else u.path
def KP (u:ApiURL):B8:=if u.hasFrag=true then([104,116,116,112,115,58,47,47]++hpF u.host u.port)++ML u++([35]++u.fragment)else([104,116,116,112,115,58,47,47]++hpF u.host u.port)++ML u
def AOg (u:ApiURL) (h:u.path.length<=1000000/\u.query.length<=1000000):KL N u=some (ML u):=by
 unfold KL ML;cases u.hasQuery;·rfl
 ·rw[aq rfl,aq rfl,BU (by grind),BU (by grind)]
def Wy (u:ApiURL) (h:u.path.length<=1000000/\u.query.length<=1000000):Gv N u=some (ML u):=by
 unfold Gv ML;cases u.hasQuery;·rfl
 ·rw[aq rfl,aq rfl,BU (by grind),BU (by grind)]
def ART (u:ApiURL):(ML u).length<=u.path.length+u.query.length+1:=by grind[ML]
def Xp (u:ApiURL):Prop:=VV u.port/\u.host.length<=1000000/\u.path.length<=1000000/\u.query.length<=1000000/\u.fragment.length<=1000000
def Z4 (u:ApiURL) (h:Xp u) (hN:20<=N):Ep N u=some (KP u):=by
 obtain⟨h1,h2,h3,h4,h5⟩:=h;have hh:=ANa u.host u.port;have ht:=ART u;unfold Ep KM KP;rw[aa,AqE _ _ h1 h2 hN,aa,BU fB,AOg u ⟨h3,h4⟩,aa,BU fB];dsimp only[AC];cases u.hasFrag;·rfl
 ·rw[aq rfl,aq rfl,BU (by grind),BU fB]
def TE (u:ApiURL) (h:Xp u) (hN:20<=N):Dv N u=some (KP u):=by
 obtain⟨h1,h2,h3,h4,h5⟩:=h;have hh:=ANa u.host u.port;have ht:=ART u;unfold Dv Pi KP;rw[aa,ApN _ _ h1 h2 hN,aa,BU fB,Wy u ⟨h3,h4⟩,aa,BU fB];dsimp only[AC];cases u.hasFrag;·rfl
 ·rw[aq rfl,aq rfl,BU (by grind),BU fB]
theorem AjV (r:B8):(N7 r).1.length<=r.length/\(N7 r).2.1.length<=r.length:=by grind[N7,List.dropWhile_sublist,Ri,List.length_drop]
def inP:B8:=[33,36,38,39,40,41,42,43,44,59,61,58,64,47]
def inQ:B8:=[33,36,38,39,40,41,42,43,44,59,61,58,64,47,63]
def Oy:ApiURL:=⟨[],0,[],[],[],false,false⟩
def Qh (N:Nat) (p:B8):B8:=if KQ N p []=[]then [47]else KQ N p []
def AVU (N:Nat) (U:ApiURI):ApiURL×Int:=if U.hasAuthority=false then(Oy,71)else if U.authority.contains 64=true then(Oy,70)else if((hpS U.authority).2 !=0)=true then(Oy,(hpS U.authority).2)else if((EA N U.path inP).2 !=0)=true then(Oy,(EA N U.path inP).2)else if((EA N U.query inQ).2 !=0)=true then(Oy,(EA N U.query inQ).2)else if((EA N U.fragment inQ).2 !=0)=true then(Oy,(EA N U.fragment inQ).2)else if(KP ⟨(hpS U.authority).1.host,(hpS U.authority).1.port,Qh N (EA N U.path inP).1,(EA N U.query inQ).1,(EA N U.fragment inQ).1,U.hasQuery,U.hasFrag⟩).length>4096 then(Oy,5)else(⟨(hpS U.authority).1.host,(hpS U.authority).1.port,Qh N (EA N U.path inP).1,(EA N U.query inQ).1,(EA N U.fragment inQ).1,U.hasQuery,U.hasFrag⟩,0)
def Acp (N:Nat) (a b:B8):ApiURL×Int:=if(a++58::b).length>4096 then(Oy,5)else AVU N (AbG a b)
def Z7 (p:B8):(Qh N p).length<=p.length+1:=by grind[NN,List.length_nil,Qh]
def Ah6{a:B8} (h:RJ a):(a.map E9==List.map E9 [104,116,116,112,115])=true:=by rw[h];decide
def ACG (N:Nat) (s:B8):ApiURL×Int:=if s.length>4096 then(Oy,5)else if((Mv s).2 !=0)=true then(Oy,(Mv s).2)else if(!((Mv s).1.hasScheme&&((Mv s).1.scheme.map E9==List.map E9 [104,116,116,112,115])))=true then(Oy,60)else AVU N (Mv s).1
def AoT{d a r:B8} (h:ABc d=some (a,r)):a.length<=d.length/\r.length<=d.length:=by
 unfold ABc at h;split at h;·cases h;have:=bu List.length (Tc d);grind
 grind
theorem Qp (s:B8):(Mv s).1.authority.length<=s.length/\(Mv s).1.path.length<=s.length/\(Mv s).1.query.length<=s.length/\(Mv s).1.fragment.length<=s.length/\(Mv s).1.scheme.length<=s.length:=by
 have hc1:=Mj 35 s;have hc2:=Mj 63 (BI 35 s).1;unfold Mv;split;·simp[Aav]
 generalize hd:(BI 63 (BI 35 s).1).1=d at *;have key: ∀a h r,r.length<=d.length->a.length<=s.length->(usT s a h r).authority.length<=s.length/\(usT s a h r).path.length<=s.length/\(usT s a h r).query.length<=s.length/\(usT s a h r).fragment.length<=s.length/\(usT s a h r).scheme.length<=s.length:=λa h r hr ha=>by grind[AjV,usT]
 split;·simp_all
 ·rename_i a r hc;have:=AoT hc;grind[Aav]
theorem ARj (s:B8) (hb:s.length<=1000000) (hN:20000<=N):Ij N s=some (ACG N s):=by
 unfold Ij ACG;by_cases hl:s.length>4096;·rw[aq (by simp only[aw];omega),aq hl];rfl
 rw[an (by simp only[aw];omega),an hl,SH s hb fx,aa];obtain⟨l1,l2,l3,l4,l5⟩:=Qp s;generalize Mv s=X at *;obtain⟨U,e⟩:=X;dsimp only[AC]at *;by_cases he:(e !=0)=true;·rw[aq he,aq he];rfl
 rw[an he,an he];cases hS:U.hasScheme;·rfl
 rw[aq rfl,Xa _ _ fx fA,aa];cases hE:(U.scheme.map E9==List.map E9 [104,116,116,112,115]);·rfl
 simp only[bL,dc,aj,aA];unfold AVU;cases hA:U.hasAuthority;·rfl
 rw[aq rfl,an fA];rw[AhX,aa];cases hat:U.authority.contains 64;rotate_left;·rfl
 rw[an fA,an fA,Atr _ fx fx,aa];have q1:=AW7 U.authority;have q2:=AKi U.authority;generalize hpS U.authority=H at *;by_cases e1:(H.2 !=0)=true;·rw[aq e1,aq e1];rfl
 rw[an e1,an e1];have n1:=MW (N:=N) U.path inP;have n2:=MW (N:=N) U.query inQ;have n3:=MW (N:=N) U.fragment inQ;rw[Og U.path _ hN,aa];change (if((EA N U.path inP).2 !=0)=true then _ else _)=_;by_cases e2:((EA N U.path inP).2 !=0)=true;·rw[aq e2,aq e2];rfl
 rw[an e2,an e2,Og U.query _ hN,aa];change (if((EA N U.query inQ).2 !=0)=true then _ else _)=_;by_cases e3:((EA N U.query inQ).2 !=0)=true;·rw[aq e3,aq e3];rfl
 rw[an e3,an e3,Og U.fragment _ hN,aa];change (if((EA N U.fragment inQ).2 !=0)=true then _ else _)=_;by_cases e4:((EA N U.fragment inQ).2 !=0)=true;·rw[aq e4,aq e4];rfl
 rw[an e4,an e4];change Option.bind (C8 N (EA N U.path inP).1) _=_;rw[Anc _ hN fx,aa];have pl:=Z7 (N:=N) (EA N U.path inP).1;have hp:Qh N (EA N U.path inP).1=if(KQ N (EA N U.path inP).1 []==[])=true then [47]else KQ N (EA N U.path inP).1 []:=by unfold Qh;split<;>simp_all
 have fin: ∀P:B8,P=Qh N (EA N U.path inP).1->((Ep N (ApiURL.mk H.1.host H.1.port P (EA N U.query inQ).1 (EA N U.fragment inQ).1 U.hasQuery U.hasFrag)).bind λy25=>if(decide ((y25.length:Int)>4096))=true then(some ((ApiURL.mk [] 0 [] [] [] false false),5):Option (ApiURL×Int))else some ((ApiURL.mk H.1.host H.1.port P (EA N U.query inQ).1 (EA N U.fragment inQ).1 U.hasQuery U.hasFrag),0))=some (if(KP ⟨H.1.host,H.1.port,Qh N (EA N U.path inP).1,(EA N U.query inQ).1,(EA N U.fragment inQ).1,U.hasQuery,U.hasFrag⟩).length>4096 then(Oy,5)else(⟨H.1.host,H.1.port,Qh N (EA N U.path inP).1,(EA N U.query inQ).1,(EA N U.fragment inQ).1,U.hasQuery,U.hasFrag⟩,0)):=by
  intro P hP;subst hP;rw[Z4 _ ⟨q1,by grind,by grind,by grind,by grind⟩ fx,aa];split;·rename_i Bp;rw[aq (by simp only[aw]at Bp;omega)];rfl
  ·rename_i Bp;rw[an (by simp only[aw]at Bp;omega)]
 by_cases e5:(KQ N (EA N U.path inP).1 []==[])=true;·rw[aq e5]at hp⊢;exact fin _ hp.symm
 ·rw[an e5]at hp⊢;exact fin _ hp.symm
theorem AQl (s:B8) (hb:s.length<=1000000) (hN:20000<=N):K7 N s=some (ACG N s):=by
 unfold K7 ACG;by_cases hl:s.length>4096;·rw[aq (by simp only[aw];omega),aq hl];rfl
 rw[an (by simp only[aw];omega),an hl,Vq s hb,aa];obtain⟨l1,l2,l3,l4,l5⟩:=Qp s;generalize Mv s=X at *;obtain⟨U,e⟩:=X;dsimp only[AC]at *;by_cases he:(e !=0)=true;·rw[aq he,aq he];rfl
 rw[an he,an he];cases hS:U.hasScheme;·rfl
 rw[aq rfl,Xk _ _ fx fA,aa];cases hE:(U.scheme.map E9==List.map E9 [104,116,116,112,115]);·rfl
 simp only[bL,dc,aj,aA];unfold AVU;cases hA:U.hasAuthority;·rfl
 rw[aq rfl,an fA];rw[OH _ [64] fA fx,aa,Auf fx];cases hat:U.authority.contains 64;rotate_left;·rfl
 rw[an fA,an fA,At9 _ fx,aa];have q1:=AW7 U.authority;have q2:=AKi U.authority;generalize hpS U.authority=H at *;by_cases e1:(H.2 !=0)=true;·rw[aq e1,aq e1];rfl
 rw[an e1,an e1];have n1:=MW (N:=N) U.path inP;have n2:=MW (N:=N) U.query inQ;have n3:=MW (N:=N) U.fragment inQ;rw[RA U.path _ hN fA,aa];change (if((EA N U.path inP).2 !=0)=true then _ else _)=_;by_cases e2:((EA N U.path inP).2 !=0)=true;·rw[aq e2,aq e2];rfl
 rw[an e2,an e2,RA U.query _ hN fA,aa];change (if((EA N U.query inQ).2 !=0)=true then _ else _)=_;by_cases e3:((EA N U.query inQ).2 !=0)=true;·rw[aq e3,aq e3];rfl
 rw[an e3,an e3,RA U.fragment _ hN fA,aa];change (if((EA N U.fragment inQ).2 !=0)=true then _ else _)=_;by_cases e4:((EA N U.fragment inQ).2 !=0)=true;·rw[aq e4,aq e4];rfl
 rw[an e4,an e4];change Option.bind (CY N (EA N U.path inP).1) _=_;rw[AoS _ hN fx,aa];have pl:=Z7 (N:=N) (EA N U.path inP).1;have hp:Qh N (EA N U.path inP).1=if(KQ N (EA N U.path inP).1 []==[])=true then [47]else KQ N (EA N U.path inP).1 []:=by unfold Qh;split<;>simp_all
 have fin: ∀P:B8,P=Qh N (EA N U.path inP).1->((Dv N (ApiURL.mk H.1.host H.1.port P (EA N U.query inQ).1 (EA N U.fragment inQ).1 U.hasQuery U.hasFrag)).bind λy25=>if(decide ((y25.length:Int)>4096))=true then(some ((ApiURL.mk [] 0 [] [] [] false false),5):Option (ApiURL×Int))else some ((ApiURL.mk H.1.host H.1.port P (EA N U.query inQ).1 (EA N U.fragment inQ).1 U.hasQuery U.hasFrag),0))=some (if(KP ⟨H.1.host,H.1.port,Qh N (EA N U.path inP).1,(EA N U.query inQ).1,(EA N U.fragment inQ).1,U.hasQuery,U.hasFrag⟩).length>4096 then(Oy,5)else(⟨H.1.host,H.1.port,Qh N (EA N U.path inP).1,(EA N U.query inQ).1,(EA N U.fragment inQ).1,U.hasQuery,U.hasFrag⟩,0)):=by
  intro P hP;subst hP;rw[TE _ ⟨q1,by grind,by grind,by grind,by grind⟩ fx,aa];split;·rename_i Bp;rw[aq (by simp only[aw]at Bp;omega)];rfl
  ·rename_i Bp;rw[an (by simp only[aw]at Bp;omega)]
 by_cases e5:(KQ N (EA N U.path inP).1 []==[])=true;·rw[aq e5]at hp⊢;exact fin _ hp.symm
 ·rw[an e5]at hp⊢;exact fin _ hp.symm
theorem AXk{a b:B8} (h:RJ a) (hb:(a++58::b).length<=1000000) (hN:20000<=N):ACG N (a++58::b)=Acp N a b:=by
 unfold ACG Acp;by_cases hl:(a++58::b).length>4096;·simp_all
 rw[an hl,an hl];have e:Mv (a++58::b)=(AbG a b,0):=cA ((SH (N:=N) _ hb fx).symm.trans (AnN h fx hN));rw[e,an (show¬(((0:Int) !=0)=true) by decide),show(AbG a b).hasScheme=true from rfl,show(AbG a b).scheme=a from rfl,Ah6 h];rfl
def ApS{a b:B8} (h:RJ a) (hb:(a++58::b).length<=1000000) (hN:20000<=N):Ij N (a++58::b)=some (Acp N a b):=by grind[ARj,AXk]
def AoP{a b:B8} (h:RJ a) (hb:(a++58::b).length<=1000000) (hN:20000<=N):K7 N (a++58::b)=some (Acp N a b):=by grind[AQl,AXk]
end
end Go.VM
namespace Go.VM
section
variable{N:Nat}
def F9{n b:Nat} (h:n<=1000000) (hb:b<=1000):Ac n b:=by unfold Ac;have:n * b<=1000000 * 1000:=fj h hb;omega
def Aw2 (c:UInt8) (l:B8) (hb:l.length<=1000000):BQ N l [c]=some (((l.takeWhile (· !=c)).length:Nat):Int):=by grind[bne,OH]
def Ajo{c:UInt8}{l:B8}:((((l.takeWhile (· !=c)).length:Nat):Int)==(l.length:Int))=!l.contains c:=by grind[Tp,RX]
def Akw{c:UInt8}{l:B8} (h:l.contains c=true) (hb:l.length<=1000000):sub l 0 (((l.takeWhile (· !=c)).length:Nat):Int)=some (BI c l).1/\sub l (wr .i64 ((((l.takeWhile (· !=c)).length:Nat):Int)+1)) (l.length:Int)=some (BI c l).2.1:=by have hlt:=RX h;obtain⟨s1,s2⟩:=AMI h hb;rw[O7,aq h]at s1 s2;grind[wr,Aq]
def Aqp{c:UInt8}{l:B8}:(BI c l).2.2=l.contains c:=by grind[Vz,Rj]
end
end Go.VM
namespace Go.VM
section
variable{N:Nat}
end
end Go.VM
namespace Go.VM
section
variable{N:Nat}
def Vl (d:Bool) (b s:B8) (h:b.length+s.length<=1000000000):AY N ⟨d,b⟩ s=some ((s.length:Int),(),⟨true,b++s⟩):=by unfold AY Fa;cases d<;>simp only[aj,aA,aD,aa]<;>rw[AU (Tw fx)]
end
end Go.VM
namespace Go.VM
section
variable{N:Nat}
def F4 (name:B8) (xs:List ApiField):List B8:=(xs.filter λf=>f.name.map E9==name.map E9).map (·.value)
def hdB (h:ApiHead):Prop:=h.fields.length<=100/\ ∀f,f∈h.fields->f.name.length+f.value.length<=20000
def QW (xs:List B8):Nat:=(xs.map List.length).sum
def M5 (sep:B8) (xs:List B8):B8:=xs.flatMap λx=>sep++x
def PR (sep:B8):List B8->B8|[]=>[]|x::xs=>x++M5 sep xs
def APi (name:B8) (xs:List ApiField):(F4 name xs).length<=xs.length:=by unfold F4;rw[ck];exact List.length_filter_le ..
def Asy{name:B8}{xs:List ApiField} (h: ∀f,f∈xs->f.name.length+f.value.length<=20000): ∀v,v∈F4 name xs->v.length<=20000:=by intro v hv;obtain⟨f,hf,rfl⟩:=bD.1 hv;have:=h f (List.mem_filter.1 hf).1;omega
def App{xs:List B8}{M:Nat} (h: ∀v,v∈xs->v.length<=M):QW xs<=xs.length * M:=by induction xs with|nil=>simp[QW]|cons x xs ih=>have h1:=h x (.head _);have h2:=ih λv hv=>h v (.tail _ hv);simp only[QW,aF,cq,ag,bB]at *;omega
def UM (sep:B8): ∀xs:List B8,(M5 sep xs).length=xs.length * sep.length+QW xs|[]=>by simp[M5,QW]|x::xs=>by have:=UM sep xs;unfold M5 QW at *;rw[cf,ah,ah,this,aF,cq,ag,bB];omega
def Ac0 (sep:B8) (xs:List B8):(PR sep xs).length<=xs.length * sep.length+QW xs:=by cases xs with|nil=>simp[PR]|cons x xs=>rw[PR,ah,UM,ag,bB];simp only[QW,aF,cq];omega
def VO (name:B8) (hn:name.length<=1000000) (k:List B8->Option (List B8)): ∀(xs:List ApiField) (s:List B8),(∀f,f∈xs->f.name.length+f.value.length<=20000)->s.length+xs.length<=1000->GL N name k xs s=k (s++F4 name xs)
 |[],s,_,_=>by rw[GL];simp[F4]
 |f::xs,s,h,hl=>by
  have h1:=h f (.head _);rw[ag]at hl;rw[GL];dsimp only[AC];rw[Xa _ _ fx fx,aa];have Bp: ∀g,g∈xs->g.name.length+g.value.length<=20000:=λg hg=>h g (.tail _ hg);unfold F4;rw[dr];by_cases e:(f.name.map E9==name.map E9)=true;·rw[aq e,aq e,AvK fx fA,VO name hn k xs _ Bp fB];simp[F4]
  ·rw[an e,an e,VO name hn k xs _ Bp fx];simp[F4]
def VW (name:B8) (hn:name.length<=1000000) (k:List B8->Option (List B8)): ∀(xs:List ApiField) (s:List B8),(∀f,f∈xs->f.name.length+f.value.length<=20000)->s.length+xs.length<=1000->FP N name k xs s=k (s++F4 name xs)
 |[],s,_,_=>by rw[FP];simp[F4]
 |f::xs,s,h,hl=>by
  have h1:=h f (.head _);rw[ag]at hl;rw[FP];dsimp only[AC];rw[Xk _ _ fx fx,aa];have Bp: ∀g,g∈xs->g.name.length+g.value.length<=20000:=λg hg=>h g (.tail _ hg);unfold F4;rw[dr];by_cases e:(f.name.map E9==name.map E9)=true;·rw[aq e,aq e,AvK fx fA,VW name hn k xs _ Bp fB];simp[F4]
  ·rw[an e,an e,VW name hn k xs _ Bp fx];simp[F4]
def AQ7{h:ApiHead} (hh:hdB h) (name:B8) (hn:name.length<=1000000):M0 N h name=some (F4 name h.fields):=by obtain⟨h1,h2⟩:=hh;unfold M0;rw[AC,BU fx,VO name hn _ _ _ h2 fB];rfl
def ATD{h:ApiHead} (hh:hdB h) (name:B8) (hn:name.length<=1000000):Li N h name=some (F4 name h.fields):=by obtain⟨h1,h2⟩:=hh;unfold Li;rw[AC,BU fx,VW name hn _ _ _ h2 fB];rfl
def pj1 (k:Int->Option B8): ∀(xs:List B8) (s:Nat),s+QW xs<=1000000000->FT N k xs (s:Int)=k ((s+QW xs:Nat):Int)|[],s,_=>by rw[FT];simp[QW]|x::xs,s,h=>by simp only[QW,aF,cq]at h;have hi:=pj1 k xs (s+x.length) (by simp only[QW];omega);rw[FT];dsimp only[AC];rw[an (by rw[Aq fx];simp;omega),Aq fx,show(s:Int)+(x.length:Int)=((s+x.length:Nat):Int) by omega,hi];simp only[QW,aF,cq,cE]
def pj2 (sep:B8) (k:StringsBuilder->Option B8): ∀(xs:List B8) (b:B8),b.length+(M5 sep xs).length<=1000000000->FI N sep k xs ⟨true,b⟩=k ⟨true,b++M5 sep xs⟩|[],b,_=>by rw[FI];simp[M5]|x::xs,b,h=>by simp only[M5,cf,ah]at h;have hi:=pj2 sep k xs (b++sep++x) (by simp only[ah,M5];omega);rw[FI,Vl _ _ _ fx,aa];dsimp only;rw[Vl _ _ _ fB,aa];dsimp only;rw[hi];simp[M5]
theorem Aky{sep:B8} (h1:1<=sep.length) (h2:sep.length<=100) (xs:List B8) (hl:xs.length<=10000) (hs:QW xs<=100000000):strings_Join N xs sep=some (PR sep xs):=by
 unfold strings_Join;match xs,hl,hs with
 |[],_,_=>rfl
 |[x],_,_=>simp[idx,PR,M5]
 | x::y::r,hl,hs=>
  simp only[ag]at hl;have hm:sep.length * (r.length+1)<=1000000:=bG (fj h2 (show r.length+1<=10000 by omega)) fA;have ht:=UM sep (y::r);have hsx:QW (x::y::r)=x.length+QW (y::r):=by simp[QW]
  rw[an fB,an fB];dsimp only[AC];have e1:wr .i64 ((((x::y::r).length:Nat):Int)-1)=((r.length+1:Nat):Int):=by rw[Aq (by simp only[ag];omega)];simp
  rw[aq fB,e1,AU fx,an,show wr .i64 ((sep.length:Int) * ((r.length+1:Nat):Int))=((sep.length * (r.length+1):Nat):Int) by rw[<-Int.natCast_mul,Aq fx],Aq fx,Int.zero_add,BU fB,pj1 _ _ _ fx]
  ·unfold Eb;rw[AU ⟨by have:1<=sep.length * (r.length+1):=Nat.mul_pos h1 fx;omega,fx⟩,aa];have e2:idx (x::y::r) 0=some x:=rfl;have e3:sub (x::y::r) 1 (((x::y::r).length:Nat):Int)=some (y::r):=by rw[show(1:Int)=((1:Nat):Int)from rfl,Av _ _ _ fy fy];simp
   rw[e2,aa,Vl _ _ _ fB,aa,e3,aa,BU fB];dsimp only;rw[pj2 _ _ _ _ (by simp only[ah,ap];rw[ht];simp only[ag];have:(r.length+1) * sep.length=sep.length * (r.length+1):=Nat.mul_comm ..;omega)];unfold Ba;simp[PR]
  ·have h0:(0:Int)<((r.length+1:Nat):Int):=fx;have h9:(922337203685477:Int)<=Int.tdiv 9223372036854775807 ((r.length+1:Nat):Int):=by rw[bv fA,Int.le_ediv_iff_mul_le h0];omega
   have h10:Int.tdiv 9223372036854775807 ((r.length+1:Nat):Int)<=9223372036854775807:=by rw[bv fA];exact Int.ediv_le_self _ fA
   rw[Aq ⟨Int.le_trans fA h9,h10⟩,aw];exact λh=>absurd (Int.le_trans h9 h) fx
def ADz (k:B8->Option (B8×Bool)): ∀(xs:List B8) (i:Nat) (s:B8),1<=i->s.length+(M5 [44,32] xs).length<=1000000000->GD N k xs (i:Int) s=k (s++M5 [44,32] xs)|[],i,s,_,_=>by rw[GD];simp[M5]|x::xs,i,s,hi,h=>by simp only[M5,cf,ah]at h;have ih:=ADz k xs (i+1) (s++[44,32]++x) fx (by simp only[ah,M5];omega);rw[GD];dsimp only[AC];rw[aq fB,BU fx,BU (by simp only[ah];omega),show(i:Int)+1=((i+1:Nat):Int) by omega,ih];simp[M5]
def AYe{h:ApiHead} (hh:hdB h) (name:B8):(F4 name h.fields).length<=100/\QW (F4 name h.fields)<=2000000:=by have h1:=APi name h.fields;have h2:=App (Asy (name:=name) hh.2);have h3:=bK 20000 (bG h1 hh.1);exact⟨bG h1 hh.1,fx⟩
def ABq (h:ApiHead) (name:B8):B8×Bool:=(PR [44,32] (F4 name h.fields),decide (((F4 name h.fields).length:Int)>0))
def AEK{h:ApiHead} (hh:hdB h) (name:B8) (hn:name.length<=1000000):QU N h name=some (ABq h name):=by have h1:=AYe hh name;unfold QU;rw[AQ7 hh name hn,aa,Aky fA fA _ fx fx,aa];rfl
def Qg{h:ApiHead} (hh:hdB h) (name:B8) (hn:name.length<=1000000):M9 N h name=some (ABq h name):=by have h1:=AYe hh name;unfold M9 ABq;rw[ATD hh name hn,aa,AC,BU fx];generalize F4 name h.fields=vs at *;cases vs with|nil=>rw[GD];rfl|cons x xs=>simp only[QW,aF,cq,ag]at h1;rw[GD];dsimp only[AC];rw[an fA,BU fB,show(0:Int)+1=((1:Nat):Int) by rfl,ADz _ _ _ _ fA (by rw[UM];simp only[ah,ap,ag,QW];omega)];rfl
end
end Go.VM
