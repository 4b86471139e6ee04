import Derived.Test.YtgfgogdgnkaedaaGreatDoorL2
set_option linter.unusedVariables false
set_option linter.unusedSimpArgs false
namespace Go.VM
section
variable{N:Nat}
theorem ABz (l:List UInt8) (hb:l.length≤2^60) (k2:List Int→Option (List UInt8)): ∀(t pre:List UInt8),l=pre++t→E5 N l k2 t (pre.length:Int) (List.map AJ (pre.map FI)++List.map AJ t)=k2 (List.map AJ (l.map FI))
 |[],pre,h=>by grind[E5]
 | c::t,pre,h=>by
  have hlen:pre.length<l.length:=by grind
  have hc:=c.toNat_lt;have next:=ABz l hb k2 t (pre++[c]) (by grind);rw[←Ah1]at next;have hi:idx (List.map AJ (pre.map FI)++List.map AJ (c::t)) (pre.length:Int)=some (AJ c):=by grind[WF,List.map,AJ,FI]
  have hset:(List.map AJ (pre.map FI)++List.map AJ (c::t)).set pre.length (AJ (FI c))=List.map AJ ((pre++[c]).map FI)++List.map AJ t:=fg;rw[E5];dsimp only[AB];rw[AR ff,hi,aa];by_cases h1:65≤c.toNat∧c.toNat≤90
  ·have e:FI c=UInt8.ofNat (c.toNat+32):=by simp_all[FI,Afb]
   have e2:AJ (FI c)=wr .u8 (AJ c+32):=by grind[ANd,AJ,toNat_ofNat]
   rw[ap (by have:=LX c;grind),ap (by have:=LX c;grind),AR ff,aa,AR (by simp<;>omega),←e2];simp_all
  ·have e:FI c=c:=by unfold FI Afb;rw[aj h1];simp
   have e3:List.map AJ ((pre++[c]).map FI)++List.map AJ t=List.map AJ (pre.map FI)++List.map AJ (c::t):=by grind
   rw[e3]at next;by_cases h2:65≤c.toNat;·rw[ap (by have:=LX c;grind),aj (by have:=LX c;grind)];omega
   ·rw[aj (by have:=LX c;grind),aj fh];omega
theorem Om (l:List UInt8) (hb:l.length≤2^60):GL N l=some (l.map FI):=by unfold GL;rw[AB,AR (by grind[AC])];have:=ABz (N:=N) l hb (fun j1=>grd (l.length≤j1.length∧AC l.length) (some (List.map FN (List.take l.length j1)))) l [] rfl;simp only[cc,bv,an]at this;rw[show(0:Int)=((0:Nat):Int)from rfl,this,AR (by grind[AC]),aU fg,Oz]
theorem Wl (a b:List UInt8) (ha:a.length≤2^60) (hb:b.length≤2^60):IW N a b=some (a.map FI==b.map FI):=by unfold IW;rw[lower_eq a ha,aa,lower_eq b hb,aa]
theorem Wh (a b:List UInt8) (ha:a.length≤2^60) (hb:b.length≤2^60):IX N a b=some (a.map FI==b.map FI):=by unfold IX;rw[Om a ha,aa,Om b hb,aa]
def Pi (l:List UInt8):List UInt8×Int:=if l=[]then([],3)else if l.length>253 then([],5)else if(AUD l||Ty l)=true then(l.map FI,0)else([],50)
theorem AfD (l:List UInt8):Lj N l=some (Pi l):=by
 unfold Lj Pi;by_cases h:l=[];·grind
 rw[aj (by grind),aj h];by_cases h2:l.length>253;·rw[ap (by simp only[au];omega),ap h2]
 rw[aj (by simp only[au];omega),aj h2];dsimp only[AB];rw[Alg l ff,aa,AiX l ff,aa,Om l ff,aa];cases AUD l<;>cases Ty l<;>rfl
end
end Go.VM
namespace Go.VM
section
variable{N:Nat}
theorem SI (m:Nat) (l:List UInt8):0≤(Du m l).1∧(Du m l).1≤m:=by grind[Du]
def RP (l:List UInt8):Int×Int:=if((Du 65535 l).2 !=0||(Du 65535 l).1==0)=true then(0,51)else((Du 65535 l).1,0)
theorem Ag6 (l:List UInt8) (hb:l.length≤2^60):QU N l=some (RP l):=by have:=SI 65535 l;unfold QU RP;rw[show(65535:Int)=((65535:Nat):Int)from rfl,Ub fh l hb,aa];dsimp only[AB];rw[Aq ff];cases (Du 65535 l).2 !=0<;>cases (Du 65535 l).1==0<;>rfl
theorem AiW (l:List UInt8) (hb:l.length≤2^60):PL N l=some (RP l):=by have:=SI 65535 l;unfold PL RP;rw[show(65535:Int)=((65535:Nat):Int)from rfl,Z6 fh fh l hb,aa];dsimp only[AB];rw[Aq ff];cases (Du 65535 l).2 !=0<;>cases (Du 65535 l).1==0<;>rfl
def hpS (l:List UInt8):ApiHostPort×Int:=if((Pi (BN 58 l).1).2 !=0)=true then(⟨[],0⟩,(Pi (BN 58 l).1).2) else if(BN 58 l).2.2=true then(if((RP (BN 58 l).2.1).2 !=0)=true then(⟨[],0⟩,(RP (BN 58 l).2.1).2)else(⟨(Pi (BN 58 l).1).1,if((RP (BN 58 l).2.1).1==443)=true then 0 else(RP (BN 58 l).2.1).1⟩,0)) else(⟨(Pi (BN 58 l).1).1,0⟩,0)
theorem Rt{c:UInt8}: ∀l:List UInt8,l.contains c=false→l.takeWhile (· !=c)=l
 |[],_=>rfl
 | x::t,h=>by
  rw[bu,Bool.or_eq_false_iff]at h;have e:(x !=c)=true:=by simp only[eL,ew];grind
  rw[aZ,e,ap rfl,Rt t h.2]
theorem ArR (l:List UInt8) (hb:l.length≤1000000):MC N l=some (hpS l):=by
 have hw:(fun c:UInt8=>!([58]:List UInt8).contains c)=(fun c=>c !=58):=by grind
 have hle:=Qe (· !=(58:UInt8)) l;have h0:sub l 0 ((l.takeWhile (· !=(58:UInt8))).length:Int)=some (l.takeWhile (· !=(58:UInt8))):=by have:=A8 l 0 _ (aH _) hle;rw[aJ,be,Ho]at this;omega
 unfold MC hpS;rw[NM l [58] fh ff,aa,hw,h0,aa,AfD,aa];unfold BN;cases hc:l.contains 58
 ·have hall:l.takeWhile (· !=(58:UInt8))=l:=by grind[Rt]
  simp only[al,aC];rw[hall];by_cases h:((Pi l).2 !=0)=true<;>simp_all[Pi]
 ·have hlt:=P7 hc;have hd:l.drop ((l.takeWhile (· !=(58:UInt8))).length+1)=(l.dropWhile (· !=(58:UInt8))).drop 1:=by grind[List.drop_drop,List.takeWhile_append_dropWhile,List.drop_left]
  simp only[aB];by_cases h:((Pi (l.takeWhile (· !=(58:UInt8)))).2 !=0)=true;·grind
  ·rw[aj h,aj h,aj (by grind)];rw[show wr .i64 (((l.takeWhile (· !=(58:UInt8))).length:Int)+1)=(((l.takeWhile (· !=(58:UInt8))).length+1:Nat):Int) by grind[Aq],A8 l _ _ ff ff,aa,hd,aU (by have:=bl List.length hd;grind),AiW _ (by grind[List.length_drop,List.dropWhile_sublist]),aa];dsimp only[AB];by_cases hp:((RP ((l.dropWhile (· !=(58:UInt8))).drop 1)).2 !=0)=true;·simp_all
   ·rw[aj hp,aj hp];split<;>rfl
end
end Go.VM
namespace Go.VM
section
variable{N:Nat}
theorem ASI{out:List UInt8}{bq:List Int} (h:List.take out.length bq=List.map AJ out):List.take (J7 out).length bq=List.map AJ (J7 out):=by
 have hle:=TJ out;have e:List.take (J7 out).length (List.take out.length bq)=List.take (J7 out).length bq:=by rw[eY,eP hle]
 rw[←e,h];unfold J7;split;·rename_i i hi;have:=WO hi;rw[aY,eP ff,fc]
 ·simp
theorem AfO (out:List UInt8) (v:Int) (hv:v=(match OV out out.length with|some i=>(i:Int)|none=> -1)):(if v>0 then v else 0).toNat=(J7 out).length∧0≤(if v>0 then v else 0)∧(if v>0 then v else 0)≤(out.length:Int):=by subst hv;unfold J7;cases h:OV out out.length with |none=>simp| some i=>have:=WO h;simp only[aY];split<;>omega
theorem Kt {M:Nat} (hM:M≤100000) (hN:M+100≤N): ∀(k:Nat) (s out:List UInt8) (bq:List Int),s.length<k→s.length+out.length≤M→out.length≤bq.length→List.take out.length bq=List.map AJ out→Al N k s out.length bq=some (KC k s out)
 |0,s,out,bq,h,_,_,_=>by omega
 | k + 1,s,out,bq,hk,hb,hl,ht=>by
  rw[Al,KC];have hchr:List.map FN (List.take out.length bq)=out:=by rw[ht,Oz]
  have hso:=TJ out;by_cases h0:s=[];·rw[ap (by grind),ap h0,AR ⟨hl,by grind[AC]⟩,hchr]
  have hpos:0<s.length:=dn.2 h0;rw[aj (by grind),aj h0,TW,aa];by_cases h1:preB [46,46,47] s=true;·have:=Pz h1;simp only[ag,an]at this;rw[ap h1,ap h1,show(3:Int)=((3:Nat):Int)from rfl,Bw ff,aa];exact Kt hM hN k _ out bq (by grind) (by grind) hl ht
  rw[aj h1,aj h1,TW,aa];by_cases h2:preB [46,47] s=true;·have:=Pz h2;simp only[ag,an]at this;rw[ap h2,ap h2,show(2:Int)=((2:Nat):Int)from rfl,Bw ff,aa];exact Kt hM hN k _ out bq (by grind) (by grind) hl ht
  rw[aj h2,aj h2,TW,aa];by_cases h3:preB [47,46,47] s=true;·have:=Pz h3;simp only[ag,an]at this;rw[ap h3,ap h3,show(2:Int)=((2:Nat):Int)from rfl,Bw ff,aa];exact Kt hM hN k _ out bq (by grind) (by grind) hl ht
  rw[aj h3,aj h3];by_cases h4:s=[47,46];·rw[ap (by grind),ap h4];have:=bl List.length h4;simp only[ag,an]at this;exact Kt hM hN k _ out bq (by grind) (by grind) hl ht
  rw[aj (by grind),aj h4];dsimp only[AB];rw[TW,aa];have hcut: ∀s2:List UInt8,s2.length<k→s2.length+out.length≤M→∀(v:Int),v=(match OV out out.length with|some i=>(i:Int)|none=> -1)→grd (0≤(if v>0 then v else 0)∧(if v>0 then v else 0)≤(out.length:Int)) (Al N k s2 ((if v>0 then v else 0).toNat) bq)=some (KC k s2 (J7 out)):=by intro s2 hs2 hs3 v hv;obtain⟨e1,e2,e3⟩:=AfO out v hv;rw[AR ⟨e2,e3⟩,e1];exact Kt hM hN k s2 (J7 out) bq hs2 ff ff (ASI ht)
  have htail: ∀s2:List UInt8,s2.length<k→s2.length+out.length≤M→(grd (out.length≤bq.length∧AC out.length) (Option.bind (strings_LastIndexByte N (List.map FN (List.take out.length bq)) 47) fun y20=>grd (0≤(if y20>0 then y20 else 0)∧(if y20>0 then y20 else 0)≤(out.length:Int)) (Al N k s2 ((if y20>0 then y20 else 0).toNat) bq)))=some (KC k s2 (J7 out)):=by intro s2 hs2 hs3;rw[AR ⟨hl,by grind[AC]⟩,hchr,AC2 out ff ff,aa];exact hcut s2 hs2 hs3 _ rfl
  by_cases h5:preB [47,46,46,47] s=true
  ·obtain⟨t,rfl⟩:=Od h5;have e3:([47,46,46,47]++t:List UInt8).drop 3=47::t:=rfl;have ep:preB [47] (47::t)=true:=by simp_all[preB]
   simp only[ah,ag,an]at hk hb;rw[ap h5,ap h5,ap rfl,show(3:Int)=((3:Nat):Int)from rfl,Bw fg,aa,e3,ANi,ap ep,aa,Bt fi];exact htail (47::t) (by grind) (by grind)
  rw[aj h5,aj h5];by_cases h6:s=[47,46,46];·subst h6;simp only[ag,an]at hk hb;rw[ap (by rfl),ap rfl,show(3:Int)=((3:Nat):Int)from rfl,Bw fg,aa,ANi,aj fh,aa,Bt fg];exact htail [47] (by grind) (by grind)
  rw[aj (by grind),aj h6];have hdd:(if(s==([46]:List UInt8))=true then Al N k [] out.length bq else if(s==([46,46]:List UInt8))=true then Al N k [] out.length bq else Option.bind (sub s 1 (s.length:Int)) fun x26=>Option.bind (strings_IndexByte N x26 47) fun y27=>if((wr .i64 (1+y27))==0)=true then Option.bind (sub s 0 (s.length:Int)) fun x33=>grd (out.length≤bq.length∧Ac (out.length+x33.length) 1) (Option.bind (sub s (s.length:Int) (s.length:Int)) fun x35=>Al N k x35 (out.length+x33.length) (List.take out.length bq++List.map AJ x33)) else Option.bind (sub s 0 (wr .i64 (1+y27))) fun x33=>grd (out.length≤bq.length∧Ac (out.length+x33.length) 1) (Option.bind (sub s (wr .i64 (1+y27)) (s.length:Int)) fun x35=>Al N k x35 (out.length+x33.length) (List.take out.length bq++List.map AJ x33)))=some (if s=[46]∨s=[46,46]then KC k [] out else KC k (s.drop (NL s)) (out++s.take (NL s))):=by
   have hrec:=Kt hM hN k [] out bq (by grind) (by grind) hl ht;by_cases h7:s=[46];·simp_all
   by_cases h8:s=[46,46];·simp_all
   have hsl:=AgP h0;have h1s:1≤NL s:=by grind[NL]
   rw[aj (by grind),aj (by grind),aj (by grind),show(1:Int)=((1:Nat):Int)from rfl,Bw ff,aa,show(47:Int)=AJ 47 from rfl,Ma,aa,OG];have fin:(Option.bind (sub s 0 ((NL s:Nat):Int)) fun x33=>grd (out.length≤bq.length∧Ac (out.length+x33.length) 1) (Option.bind (sub s ((NL s:Nat):Int) (s.length:Int)) fun x35=>Al N k x35 (out.length+x33.length) (List.take out.length bq++List.map AJ x33)))=some (KC k (s.drop (NL s)) (out++s.take (NL s))):=by rw[show(0:Int)=((0:Nat):Int)from rfl,A8 s 0 _ (aH _) hsl,aa,AR ⟨hl,Ry (by grind)⟩,Bw hsl,aa,aJ,be,ht];have hlen:out.length+(List.take (NL s) s).length=(out++List.take (NL s) s).length:=fg;rw[hlen];exact Kt hM hN k _ (out++s.take (NL s)) _ (by grind) (by grind) fg (by grind[List.take_of_length_le])
   by_cases hc:(s.drop 1).contains 47=true
   ·have e:wr .i64 (((1:Nat):Int)+(((s.drop 1).takeWhile (· !=47)).length:Int))=((NL s:Nat):Int):=by unfold NL at hsl⊢;rw[Aq ff];omega
    rw[ap hc,e,aj (by grind)];omega
   ·rw[aj hc,ap (by rfl)];have hc':(s.drop 1).contains 47=false:=by grind
    have e:NL s=s.length:=by grind[Rt,NL,List.length_drop]
    simp_all
  simp_all
theorem Amf (s:List UInt8) (hN:20000≤N) (hb:s.length≤16380):DN N s=some (KC N s []):=by unfold DN;rw[AR (by grind[Ra])];have:=Kt (N:=N) (M:=16380) ff ff N s [] (List.replicate (0:Int).toNat 0) ff fi fg fg;grind
theorem Z5 (s:List UInt8) (hN:100000≤N) (hb:s.length≤40000):DN N s=some (KC N s []):=by unfold DN;rw[AR (by grind[Ra])];have:=Kt (N:=N) (M:=40000) ff ff N s [] (List.replicate (0:Int).toNat 0) ff fi fg fg;grind
theorem M5: ∀(k:Nat) (s out:List UInt8),(KC k s out).length≤s.length+out.length
 |0,s,out=>by simp[KC]
 | k+1,s,out=>by
  have hso:=TJ out;rw[KC];split;·omega
  split;·have:=M5 k (s.drop 3) out;grind
  split;·have:=M5 k (s.drop 2) out;grind
  split;·have:=M5 k (s.drop 2) out;grind
  split;·rename_i h;have:=M5 k [47] out;grind
  split;·have:=M5 k (s.drop 3) (J7 out);grind
  split;·rename_i h;have:=M5 k [47] (J7 out);grind
  split;·have:=M5 k [] out;grind
  ·have:=M5 k (s.drop (NL s)) (out++s.take (NL s));grind
end
end Go.VM
namespace Go.VM
section
variable{N:Nat}
def QD (a:List UInt8):Prop:=a.map FI=[104,116,116,112,115]
theorem Xc{a:List UInt8} (h:QD a):a.length=5∧∀x,x∈a→Mm x=true∧x.toNat<128∧x≠35∧x≠63∧x≠47∧x≠58∧x≠64:=by
 refine⟨by have:=bl List.length h;simp_all,fun x Bl=>?_⟩;have hm:FI x∈([104,116,116,112,115]:List UInt8):=by rw[←h];grind
 have key:=Cq (f:=fun n=>(!([104,116,116,112,115]:List UInt8).contains (FI (UInt8.ofNat n)))||(Z4 n&&decide (n<128)&&decide (n≠35)&&decide (n≠63)&&decide (n≠47)&&decide (n≠58)&&decide (n≠64))) (g:=fun _=>true) (by kernel_rfl) x;simp only[bY]at key;rw[show([104,116,116,112,115]:List UInt8).contains (FI x)=true by grind]at key;simp only[bL,bb,av,au]at key;obtain⟨⟨⟨⟨⟨⟨k1,k2⟩,k3⟩,k4⟩,k5⟩,k6⟩,k7⟩:=key;refine⟨k1,k2,?_,?_,?_,?_,?_⟩<;>(rintro rfl;simp_all)
theorem AVs{c:UInt8}: ∀(pre t:List UInt8),(∀x,x∈pre→x≠c)→BN c (pre++t)=(pre++(BN c t).1,(BN c t).2)
 |[],t,_=>rfl
 | x::pre,t,h=>by
  have ih:=AVs pre t fun y hy=>h y (by grind);have Bl:x≠c:=h x fg;have e1:(c==x)=false:=by grind
  have e2:(x !=c)=true:=by grind
  rw[bA];cases hc:(pre++t).contains c;·rw[Vk (by rw[bu,e1,hc];rfl)];rw[Vk hc]at ih;simp only[aw]at ih;obtain⟨i1,i2⟩:=ih;rw[bA,←i1,←i2]
  ·rw[Qb (by grind),aZ,e2,bS,e2];rw[Qb hc]at ih;simp_all
theorem Atq{α:Type} (c:UInt8) (l:List UInt8) (hb:l.length≤1000000) (k:List UInt8×List UInt8×Bool→Option α):(Option.bind (Br N l [c]) fun y=>if(decide (y<(l.length:Int)))=true then Option.bind (sub l (wr .i64 (y+1)) (l.length:Int)) fun x7=>Option.bind (sub l 0 y) fun x8=>k (x8,x7,true)else k (l,[],false))=k (BN c l):=by
 have hw:(fun x:UInt8=>!([c]:List UInt8).contains x)=(fun x=>x !=c):=by grind
 rw[NM l [c] fg ff,aa,hw];cases hc:l.contains c;·rw[Rt l hc,aj fg,Vk hc]
 ·have hlt:=P7 hc;obtain⟨s1,s2⟩:=AFi hc hb;rw[OG,ap hc]at s1 s2;have w0:wr .i64 (((l.takeWhile (· !=c)).length:Int)+0)=((l.takeWhile (· !=c)).length:Int):=by grind[Aq]
  rw[w0]at s1;rw[ap (by grind),show((1:Int))=(([c]:List UInt8).length:Int)from rfl,s2,aa,s1,aa,Qb hc]
def NF (r:List UInt8):List UInt8×List UInt8×Bool:=if preB [47,47] r=true then((r.drop 2).dropWhile (· !=47),(r.drop 2).takeWhile (· !=47),true)else(r,[],false)
def AYi (a b:List UInt8):ApiURI:=⟨a,(NF (BN 63 (BN 35 b).1).1).2.1,(NF (BN 63 (BN 35 b).1).1).1,(BN 63 (BN 35 b).1).2.1,(BN 35 b).2.1,true,(NF (BN 63 (BN 35 b).1).1).2.2,(BN 63 (BN 35 b).1).2.2,(BN 35 b).2.2⟩
theorem VQ (k2:Unit→Option Bool): ∀(l:List UInt8) (i:Int),(∀x,x∈l→Mm x=true)→Ct N k2 l i=k2 () |[],i,_=>by rw[Ct]| c::l,i,h=>by rw[Ct];dsimp only[AB];rw[TR,aa,h c fg,ap rfl,aj fh];exact VQ k2 l (i+1) fun x Bl=>h x (by grind)
theorem AT5{a:List UInt8} (h:QD a):KL N a=some true:=by obtain⟨h5,hl⟩:=Xc h;unfold KL;rw[AB,Bt ff,VQ _ a 0 fun x Bl=>(hl x Bl).1];cases a with |nil=>grind|cons _ _=>rfl
theorem Aph{p:UInt8→Bool}: ∀(a:List UInt8){x:UInt8}{t:List UInt8},(∀y,y∈a→p y=true)→p x=false→(a++x::t).takeWhile p=a |[],x,t,_,Bl=>by rw[bv,aZ,Bl];rfl|y::a,x,t,h,Bl=>by simp_all
theorem Akb{a:List UInt8} (h:QD a): ∀y,y∈a→(!([58,47]:List UInt8).contains y)=true:=fun y hy=>by obtain⟨_,_,_,_,k5,k6,_⟩:=(Xc h).2 y hy;grind
theorem AdG{α:Type}{d:JD Int} (r:List UInt8) (hb:r.length≤1000000) (k:List UInt8×List UInt8×Bool→Option α):(Option.bind (strings_CutPrefix N r ([47,47]:List UInt8)) fun y24=>if y24.2=true then Option.bind (strings_IndexByte N y24.1 47) fun y26=>AA (fun j28:Int=>Option.bind (sub y24.1 0 j28) fun x32=>Option.bind (sub y24.1 j28 (y24.1.length:Int)) fun x33=>k (x33,x32,true)) (fun k29=>if(decide (y26<0))=true then k29 (y24.1.length:Int) else k29 y26) d else k (r,[],false))=k (NF r):=by
 rw[AWa,aa];unfold NF;by_cases h:preB [47,47] r=true
 ·rw [ap h,ap h];simp only[aB,ag,an];rw[show(47:Int)=AJ 47 from rfl,Ma,aa,OG,AB];generalize hq:r.drop (0+1+1)=q;have hql:q.length≤1000000:=by grind
  cases hc:q.contains 47
  ·have hd:q.dropWhile (· !=(47:UInt8))=[]:=by have e:=bm (p:=(· !=(47:UInt8))) (l:=q);rw[Rt q hc]at e;simp_all
   simp only[al,aC];rw[ap fh,show(0:Int)=((0:Nat):Int)from rfl,A8 q 0 _ (aH _) (aq _),aa,Bw (aq _),aa,Rt q hc,hd];simp
  ·have hlt:=P7 hc;simp only[aB];rw[aj fg,show(0:Int)=((0:Nat):Int)from rfl,A8 q 0 _ (aH _) ff,aa,Bw ff,aa,aJ,be,Ho,Kc]
 simp_all
theorem Aoi{α:Type} (r:List UInt8) (hb:r.length≤1000000) (k:List UInt8×List UInt8×Bool→Option α):(Option.bind (E8 N r ([47,47]:List UInt8)) fun y36=>if y36=true then Option.bind (sub r 2 (r.length:Int)) fun x38=>Option.bind (Br N x38 ([47]:List UInt8)) fun y39=>Option.bind (sub r 2 (wr .i64 (2+y39))) fun x41=>Option.bind (sub r (wr .i64 (2+y39)) (r.length:Int)) fun x42=>k (x42,x41,true) else k (r,[],false))=k (NF r):=by
 have hw:(fun x:UInt8=>!([47]:List UInt8).contains x)=(fun x=>x !=47):=by grind
 rw[VG,aa];unfold NF;by_cases h:preB [47,47] r=true
 ·have hl:=Pz h;simp only[ag,an]at hl;have hle:=Qe (· !=(47:UInt8)) (r.drop 2);rw[aM]at hle;rw[ap h,ap h,show(2:Int)=((2:Nat):Int)from rfl,Bw ff,aa,NM _ [47] fg (by grind),aa,hw];have e:wr .i64 (((2:Nat):Int)+(((r.drop 2).takeWhile (fun x=>x !=47)).length:Int))=((2+((r.drop 2).takeWhile (fun x=>x !=47)).length:Nat):Int):=by grind[Aq]
  rw[e,A8 r 2 _ ff ff,aa,Bw ff,aa,show 2+((r.drop 2).takeWhile (fun x=>x !=47)).length-2=((r.drop 2).takeWhile (fun x=>x !=47)).length by omega,Ho,←aT,Kc]
 simp_all
theorem AoL{c:UInt8}{a b:List UInt8} (h: ∀x,x∈a→x≠c) (hc:(58:UInt8)≠c):BN c (a++58::b)=(a++58::(BN c b).1,(BN c b).2):=by
 rw[show a++58::b=(a++[58])++b by simp,AVs (a++[58]) b (by
  intro x Bl;simp only[aV,aO,dG,eF]at Bl;rcases Bl with Bl|rfl;·exact h x Bl
  ·exact hc)];simp
theorem AlY{a b:List UInt8} (h:QD a) (hb:(a++58::b).length≤16384) (hN:20000≤N):K5 N (a++58::b)=some (AYi a b,0):=by
 obtain⟨h5,hl⟩:=Xc h;simp only[ah,ag]at hb;have hc1:=Lp 35 b;have hc2:=Lp 63 (BN 35 b).1;unfold K5 AYi;rw[aj (by simp only[ah,ag,au];omega),SL 35 _ (by grind),aa,AoL (c:=35) (fun x Bl=>(hl x Bl).2.2.1) fh,SL 63 _ (by grind),aa,AoL (c:=63) (fun x Bl=>(hl x Bl).2.2.2.1) fh];dsimp only;generalize (BN 63 (BN 35 b).1)=d at *;obtain⟨r,q,hq⟩:=d;dsimp only at *;have hset:=Akb h;have htw:((a++58::r).takeWhile fun c=>!([58,47]:List UInt8).contains c)=a:=Aph a hset fh;have hany:(a++58::r).any ([58,47]:List UInt8).contains=true:=fg;refine(Ik (a:=(r,a,true)) fun k=>?_).trans ?_;·rw[XD fh fh fh (by grind) (by grind) ff,aa];unfold Yf;rw[ap hany,htw];have hget:(a++58::r)[a.length]?=some 58:=fg;dsimp only[AB];rw[ap fg,Ei,hget,aa,ap fh,show(0:Int)=((0:Nat):Int)from rfl,A8 _ 0 _ (aH _) fg,aa,aJ,be,d5,AT5 h,aa,ap rfl,show wr .i64 ((a.length:Int)+1)=((a.length+1:Nat):Int) by grind[Aq],Bw fg,aa];simp
 ·dsimp only;refine(Ik (a:=NF r) fun k=>AdG r ff k).trans ?_;rfl
end
end Go.VM
namespace Go.VM
section
variable{N:Nat}
def AbV (c:UInt8):Bool:=([43,45,46]:List UInt8).contains c
def ARz (c:UInt8):Bool:=Mm c||(Gg c||AbV c)
def AAq:List UInt8→Bool |[]=>false|c::t=>Mm c&&t.all ARz
def MJ (c:UInt8):Bool:=!([58,47]:List UInt8).contains c
theorem ACM (set:List UInt8): ∀l:List UInt8,l.any set.contains=!((l.dropWhile fun c=>!set.contains c)==[])
 |[]=>rfl
 | c::l=>by
  rw[cG,bS];cases h:set.contains c;·rw[bb,ACM set l];rfl
  ·simp
def AA2 (d:List UInt8):Option (List UInt8×List UInt8):=if(d.dropWhile MJ).head?=some 58 then some (d.takeWhile MJ,(d.dropWhile MJ).drop 1)else none
def Aac:ApiURI:=⟨[],[],[],[],[],false,false,false,false⟩
def usT (s:List UInt8) (a:List UInt8) (h:Bool) (d:List UInt8):ApiURI:=⟨a,(NF d).2.1,(NF d).1,(BN 63 (BN 35 s).1).2.1,(BN 35 s).2.1,h,(NF d).2.2,(BN 63 (BN 35 s).1).2.2,(BN 35 s).2.2⟩
def Lm (s:List UInt8):ApiURI×Int:=if s.length>16384 then(Aac,5) else match AA2 (BN 63 (BN 35 s).1).1 with |none=>(usT s [] false (BN 63 (BN 35 s).1).1,0)|some (a,r)=>if AAq a=true then(usT s a true r,0)else(Aac,6)
theorem AsJ (c:UInt8):decide (Go.Lib.indexByte ([43,45,46]:List UInt8) c<0)=!AbV c:=by grind[AbV,Go.Lib.indexByte]
theorem ACg (k2:Unit→Option Bool): ∀(l:List UInt8) (i:Int),1≤i→Ct N k2 l i=if l.all ARz=true then k2 ()else some false
 |[],i,_=>by grind[Ct]
 | c::l,i,h=>by
  have ih:=ACg k2 l (i+1) ff;have h0:(i==0)=false:=by grind
  rw[Ct];dsimp only[AB];rw[TR,aa,bh];unfold ARz at *;cases Mm c
  ·rw[aj fh,h0,aj fh,Yt,aa];cases Gg c;·rw[aj fh,Ma,aa,AsJ];cases AbV c<;>simp_all[AbV]
   simp_all
  simp_all
theorem Anx{a:List UInt8} (hb:a.length≤1000000):KL N a=some (AAq a):=by
 unfold KL AAq;rw[AB,Bt ff];cases a with
 |nil=>grind[Ct]
 | cons c t=>
  rw[Ct];dsimp only[AB];rw[TR,aa];cases Mm c;·rfl
  ·rw[ap rfl,aj fh,ACg _ t _ ff];cases t.all ARz<;>rfl
theorem AB1 (k2:Unit→Option Bool): ∀(l:List UInt8) (i:Int),1≤i→DJ N k2 l i=if l.all ARz=true then k2 ()else some false
 |[],i,_=>by grind[DJ]
 | c::l,i,h=>by
  have ih:=AB1 k2 l (i+1) ff;have h0:(i==0)=false:=by grind
  rw[DJ];dsimp only[AB];rw[Xd,aa,bh];unfold ARz at *;cases Mm c
  ·rw[aj fh,h0,aj fh,Yy,aa];cases Gg c
   ·rw[aj fh,ATo _ _ fh,aa];unfold AbV;cases ([43,45,46]:List UInt8).contains c;·rfl
    ·rw[aj fh,ih];rfl
   simp_all
  simp_all
theorem AlX{a:List UInt8} (hb:a.length≤1000000):Kl N a=some (AAq a):=by
 unfold Kl AAq;rw[AB,Bt ff];cases a with
 |nil=>grind[DJ]
 | cons c t=>
  rw[DJ];dsimp only[AB];rw[Xd,aa];cases Mm c;·rfl
  ·rw[ap rfl,aj fh,AB1 _ t _ ff];cases t.all ARz<;>rfl
def X5{α:Type} (d:List UInt8) (e:Option α) (k:List UInt8×List UInt8×Bool→Option α):Option α:=match AA2 d with |none=>k (d,[],false)|some (a,r)=>if AAq a=true then k (r,a,true)else e
theorem SV (d:List UInt8):d.takeWhile MJ++d.dropWhile MJ=d:=bm
theorem Aay{α:Type}{d:List UInt8} (hb:d.length≤1000000) (hN:20≤N) (e:Option α) (k:List UInt8×List UInt8×Bool→Option α){D:JD Bool}:(Option.bind (strings_IndexAny N d ([58,47]:List UInt8)) fun y9=>AA (fun j11:Bool=>if j11=true then Option.bind (sub d 0 y9) fun x16=>Option.bind (KL N x16) fun y17=>if y17=true then Option.bind (sub d (wr .i64 (y9+1)) (d.length:Int)) fun x19=>k (x19,x16,true) else e else k (d,[],false)) (fun k12=>if(decide (y9≥0))=true then Option.bind (idx d y9) fun x15=>k12 ((AJ x15)==58) else k12 false) D)=X5 d e k:=by
 rw[AXb hb hN,aa];dsimp only[AB];unfold Yf X5 AA2;rw[ACM];change _=_;have hw:(d.takeWhile fun c=>!([58,47]:List UInt8).contains c)=d.takeWhile MJ:=rfl;have hd:(d.dropWhile fun c=>!([58,47]:List UInt8).contains c)=d.dropWhile MJ:=rfl;rw[hw,hd];have hs:=SV d;cases Bl:d.dropWhile MJ with
 |nil=>rfl
 | cons c t=>
  have hlen:d.length=(d.takeWhile MJ).length+(t.length+1):=by have:=bl List.length hs;grind
  have hget:d[(d.takeWhile MJ).length]?=some c:=by grind
  rw[show(!((c::t)==([]:List UInt8)))=true from rfl,ap rfl,ap fg,Ei,hget,aa,List.head?_cons];by_cases h:c=58
  ·subst h;rw[ap fh,ap rfl,show(0:Int)=((0:Nat):Int)from rfl,A8 _ 0 _ (aH _) ff,aa,aJ,be,Ho,Anx ff,aa];dsimp only;cases AAq (d.takeWhile MJ);·rfl
   ·rw[ap rfl,ap rfl,show wr .i64 (((d.takeWhile MJ).length:Int)+1)=(((d.takeWhile MJ).length+1:Nat):Int) by grind[Aq],Bw ff,aa,←aT,Kc,Bl]
  ·have hb':((AJ c)==58)=false:=by rw[show(58:Int)=AJ 58 from rfl,AeI];grind
   simp_all
theorem AZA{α:Type}{d:List UInt8} (hb:d.length≤1000000) (e:Option α) (k:List UInt8×List UInt8×Bool→Option α){D:JD Bool}:(Option.bind (Br N d ([58,47]:List UInt8)) fun y9=>AA (fun j11:Bool=>if j11=true then Option.bind (sub d 0 y9) fun x16=>Option.bind (Kl N x16) fun y17=>if y17=true then Option.bind (sub d (wr .i64 (y9+1)) (d.length:Int)) fun x19=>k (x19,x16,true) else e else k (d,[],false)) (fun k12=>if(decide (y9<(d.length:Int)))=true then Option.bind (idx d y9) fun x15=>k12 ((AJ x15)==58) else k12 false) D)=X5 d e k:=by
 rw[NM _ _ fh ff,aa];dsimp only[AB];unfold X5 AA2;have hw:(d.takeWhile fun c=>!([58,47]:List UInt8).contains c)=d.takeWhile MJ:=rfl;rw[hw];have hs:=SV d;cases Bl:d.dropWhile MJ with
 | nil=>simp_all
 | cons c t=>
  have hlen:d.length=(d.takeWhile MJ).length+(t.length+1):=by have:=bl List.length hs;grind
  have hget:d[(d.takeWhile MJ).length]?=some c:=by grind
  rw[ap (by grind),Ei,hget,aa,List.head?_cons];by_cases h:c=58
  ·subst h;rw[ap fh,ap rfl,show(0:Int)=((0:Nat):Int)from rfl,A8 _ 0 _ (aH _) ff,aa,aJ,be,Ho,AlX ff,aa];dsimp only;cases AAq (d.takeWhile MJ);·rfl
   ·rw[ap rfl,ap rfl,show wr .i64 (((d.takeWhile MJ).length:Int)+1)=(((d.takeWhile MJ).length+1:Nat):Int) by grind[Aq],Bw ff,aa,←aT,Kc,Bl]
  ·have hb':((AJ c)==58)=false:=by rw[show(58:Int)=AJ 58 from rfl,AeI];grind
   simp_all
theorem AN6{α β:Type}{K:α→Option β}{body:(α→Option β)→Option β}{d:JD α}{X:(α→Option β)→Option β} (h: ∀k:α→Option β,body k=X k):AA K body d=X K:=h K
theorem Qz (s:List UInt8) (hb:s.length≤1000000) (hN:20≤N):K5 N s=some (Lm s):=by
 have hc1:=Lp 35 s;have hc2:=Lp 63 (BN 35 s).1;unfold K5 Lm;by_cases h:s.length>16384;·rw[ap (by grind),ap h];rfl
 rw[aj (by grind),aj h,SL 35 _ ff,aa,SL 63 _ ff,aa];generalize hd:(BN 63 (BN 35 s).1).1=d at *;refine(AN6 (X:=fun k=>X5 d (some (Aac,6)) k) fun k=>Aay ff hN _ k).trans ?_;unfold X5;cases hcol:AA2 d with
 | none=>dsimp only;refine(Ik (a:=NF d) fun k=>AdG d ff k).trans ?_;rfl
 | some p=>
  obtain⟨a,r⟩:=p;dsimp only;cases AAq a;·rfl
  ·have hr:r.length≤d.length:=by
    unfold AA2 at hcol;split at hcol;·cases hcol;have:=bl List.length (SV d);grind
    grind
   rw[ap rfl,ap rfl];refine(Ik (a:=NF r) fun k=>AdG r ff k).trans ?_;rfl
theorem UM (s:List UInt8) (hb:s.length≤1000000):KN N s=some (Lm s):=by
 have hc1:=Lp 35 s;have hc2:=Lp 63 (BN 35 s).1;unfold KN Lm;by_cases h:s.length>16384;·rw[ap (by grind),ap h];rfl
 rw[aj (by grind),aj h];refine(Ik (a:=BN 35 s) fun k=>Atq 35 _ ff k).trans ?_;refine(Ik (a:=BN 63 (BN 35 s).1) fun k=>Atq 63 _ ff k).trans ?_;generalize hd:(BN 63 (BN 35 s).1).1=d at *;refine(AN6 (X:=fun k=>X5 d (some (Aac,6)) k) fun k=>AZA ff _ k).trans ?_;unfold X5;cases hcol:AA2 d with
 | none=>dsimp only;refine(Ik (a:=NF d) fun k=>Aoi d ff k).trans ?_;rfl
 | some p=>
  obtain⟨a,r⟩:=p;dsimp only;cases AAq a;·rfl
  ·have hr:r.length≤d.length:=by
    unfold AA2 at hcol;split at hcol;·cases hcol;have:=bl List.length (SV d);grind
    grind
   rw[ap rfl,ap rfl];refine(Ik (a:=NF r) fun k=>Aoi r ff k).trans ?_;rfl
end
end Go.VM
namespace Go.VM
section
variable{N:Nat}
theorem AB3 (k4:Unit→Option Bool): ∀ps:List (List UInt8),(∀p,p∈ps→p.length≤2^60)→Ev N k4 ps=if(ps.all fun p=>(Du 255 p).2==0)=true then k4 ()else some false |[],_=>by grind[Ev]| p::ps,h=>by rw[Ev,show(255:Int)=((255:Nat):Int)from rfl,Ub fh p (h p fg),aa,AB3 k4 ps fun q hq=>h q (by grind),bh];cases hx:((Du 255 p).2==0)<;>simp[bne,hx]
theorem Ak1 (l:List UInt8) (hb:l.length≤1000000):Ny N l=some (AUD l):=by
 have hl:=NS 46 l;have hp:=ML 46 l;unfold Ny;rw[ACN l 46 hb,aa];dsimp only[AB];rw[Bt ff,AB3 _ _ fun p h=>by grind];unfold AUD;have e:(((Bb 46 l).length:Int) !=4)=!decide ((Bb 46 l).length=4):=by grind
 rw[e];cases decide ((Bb 46 l).length=4)<;>cases ((Bb 46 l).all fun p=>(Du 255 p).2==0)<;>simp
theorem AiZ (l:List UInt8) (hN:300≤N):Oo N l=some (Pi l):=by
 unfold Oo Pi;by_cases h:l=[];·grind
 rw[aj (by grind),aj h];by_cases h2:l.length>253;·rw[ap (by simp only[au];omega),ap h2]
 rw[aj (by simp only[au];omega),aj h2];dsimp only[AB];rw[Ak1 l ff,aa,AdF l ff ff,aa,lower_eq l ff,aa];cases AUD l<;>cases Ty l<;>rfl
theorem Ap7 (l:List UInt8) (hN:300≤N) (hb:l.length≤1000000):NP N l=some (hpS l):=by
 have hle:=Lp 58 l;unfold NP hpS;rw[SL 58 l ff,aa,AiZ _ hN,aa];dsimp only[AB];rw[Ag6 _ ff,aa];by_cases h:((Pi (BN 58 l).1).2 !=0)=true;·grind
 ·rw [aj h,aj h];cases (BN 58 l).2.2;·rfl
  ·simp only[aB];by_cases hp:((RP (BN 58 l).2.1).2 !=0)=true;·simp_all
   ·rw[aj hp,aj hp];split<;>rfl
def U4 (p:Int):Prop:=0≤p∧p≤65535
theorem Aie (l:List UInt8):U4 (RP l).1:=by grind[SI,RP,U4]
theorem ASV (l:List UInt8):U4 (hpS l).1.port:=by grind[Aie,BN,hpS,U4]
theorem AZG (l:List UInt8):(Pi l).1.length≤253:=by grind[Pi]
theorem AJU (l:List UInt8):(hpS l).1.host.length≤253:=by grind[AZG,BN,hpS]
def hpF (h:List UInt8) (p:Int):List UInt8:=if p=0 then h else h++[58]++fmtS p.toNat
theorem AJj (h:List UInt8) (p:Int):(hpF h p).length≤h.length+21:=by grind[Z0,hpF]
theorem Al4 (h:List UInt8) (p:Int) (hp:U4 p) (hb:h.length≤1000000) (hN:20≤N):OE N ⟨h,p⟩=some (hpF h p):=by
 have hl:=Z0 p.toNat;obtain⟨h1,h2⟩:=hp;unfold OE hpF;by_cases h0:p=0;·simp_all
 ·rw[aj (by grind),aj h0,aj (by grind)];have e:wr .u64 p=((p.toNat:Nat):Int):=by rw[Ff ff];omega
  simp only[e];rw[ATi p.toNat ff hN,aa,Bt fi,Bt fi]
theorem Anb (h:List UInt8) (p:Int) (hp:U4 p) (hb:h.length≤1000000) (hN:20≤N):Mx N ⟨h,p⟩=some (hpF h p):=by
 have hl:=Z0 p.toNat;obtain⟨h1,h2⟩:=hp;unfold Mx CE hpF;by_cases h0:p=0;·simp_all
 ·rw[aj (by grind),aj h0];have e:wr .u64 p=((p.toNat:Nat):Int):=by grind[Ff]
  simp only[e];rw[aj (by grind),AUn p.toNat ff hN,aa,aa,Bt (by grind),Bt (by grind)]
end
end Go.VM
namespace Go.VM
section
variable{N:Nat}
theorem AfL (c:UInt8) (l:List UInt8):strings_Contains N l [c]=some (l.contains c):=by unfold strings_Contains;rw[AWg,aa,KV]
theorem ApU{c:UInt8}{l:List UInt8} (hb:l.length≤1000000):decide ((((l.takeWhile fun x=>!([c]:List UInt8).contains x).length:Nat):Int)<(l.length:Int))=l.contains c:=by grind[bne,Rt,P7]
theorem AGY (also:List UInt8): ∀(k:Nat) (t out:List UInt8),(XG also k t out).1.length≤out.length+t.length
 |0,t,out=>by simp[XG]
 |k+1,[],out=>by simp[XG]
 | k+1,c::t,out=>by
  rw[XG];split;·cases h:AGd t with |none=>simp| some x=>have h2:=ADT h;have:=AGY also k (t.drop 2) (out++(if OP x=true then [x]else XH x));grind[OP,XH]
  ·split;·have:=AGY also k t (out++[c]);grind
   ·simp
theorem NB (s also:List UInt8):(EH N s also).1.length≤s.length:=by grind[EH,AGY]
def LV (u:ApiURL):List UInt8:=if u.hasQuery=true then u.path++[63]++u.query else u.path
def KA (u:ApiURL):List UInt8:=if u.hasFrag=true then([104,116,116,112,115,58,47,47]++hpF u.host u.port)++LV u++([35]++u.fragment)else([104,116,116,112,115,58,47,47]++hpF u.host u.port)++LV u
theorem APp (u:ApiURL) (h:u.path.length≤1000000∧u.query.length≤1000000):Ju N u=some (LV u):=by
 unfold Ju LV;cases u.hasQuery;·rfl
 ·rw[ap rfl,ap rfl,Bt (by grind),Bt (by grind)]
theorem V5 (u:ApiURL) (h:u.path.length≤1000000∧u.query.length≤1000000):Gj N u=some (LV u):=by
 unfold Gj LV;cases u.hasQuery;·rfl
 ·rw[ap rfl,ap rfl,Bt (by grind),Bt (by grind)]
theorem ARH (u:ApiURL):(LV u).length≤u.path.length+u.query.length+1:=by grind[LV]
def WZ (u:ApiURL):Prop:=U4 u.port∧u.host.length≤1000000∧u.path.length≤1000000∧u.query.length≤1000000∧u.fragment.length≤1000000
theorem AAL (u:ApiURL) (h:WZ u) (hN:20≤N):Fz N u=some (KA u):=by
 obtain⟨h1,h2,h3,h4,h5⟩:=h;have hh:=AJj u.host u.port;have ht:=ARH u;unfold Fz Jr KA;rw[aa,Al4 _ _ h1 h2 hN,aa,Bt fi,APp u ⟨h3,h4⟩,aa,Bt fi];dsimp only[AB];cases u.hasFrag;·rfl
 ·rw[ap rfl,ap rfl,Bt (by grind),Bt fi]
theorem Rn (u:ApiURL) (h:WZ u) (hN:20≤N):DZ N u=some (KA u):=by
 obtain⟨h1,h2,h3,h4,h5⟩:=h;have hh:=AJj u.host u.port;have ht:=ARH u;unfold DZ Kn KA;rw[aa,Anb _ _ h1 h2 hN,aa,Bt fi,V5 u ⟨h3,h4⟩,aa,Bt fi];dsimp only[AB];cases u.hasFrag;·rfl
 ·rw[ap rfl,ap rfl,Bt (by grind),Bt fi]
theorem AiP (r:List UInt8):(NF r).1.length≤r.length∧(NF r).2.1.length≤r.length:=by grind[NF,List.dropWhile_sublist,Qe,List.length_drop]
def inP:List UInt8:=[33,36,38,39,40,41,42,43,44,59,61,58,64,47]
def inQ:List UInt8:=[33,36,38,39,40,41,42,43,44,59,61,58,64,47,63]
def N9:ApiURL:=⟨[],0,[],[],[],false,false⟩
def Po (N:Nat) (p:List UInt8):List UInt8:=if KC N p []=[]then [47]else KC N p []
def AUp (N:Nat) (U:ApiURI):ApiURL×Int:=if U.hasAuthority=false then(N9,71) else if U.authority.contains 64=true then(N9,70) else if((hpS U.authority).2 !=0)=true then(N9,(hpS U.authority).2) else if((EH N U.path inP).2 !=0)=true then(N9,(EH N U.path inP).2) else if((EH N U.query inQ).2 !=0)=true then(N9,(EH N U.query inQ).2) else if((EH N U.fragment inQ).2 !=0)=true then(N9,(EH N U.fragment inQ).2) else if(KA ⟨(hpS U.authority).1.host,(hpS U.authority).1.port,Po N (EH N U.path inP).1,(EH N U.query inQ).1,(EH N U.fragment inQ).1,U.hasQuery,U.hasFrag⟩).length>4096 then(N9,5) else(⟨(hpS U.authority).1.host,(hpS U.authority).1.port,Po N (EH N U.path inP).1,(EH N U.query inQ).1,(EH N U.fragment inQ).1,U.hasQuery,U.hasFrag⟩,0)
def AXq (N:Nat) (a b:List UInt8):ApiURL×Int:=if(a++58::b).length>4096 then(N9,5)else AUp N (AYi a b)
theorem AAD (p:List UInt8):(Po N p).length≤p.length+1:=by grind[M5,List.length_nil,Po]
theorem AiN{a:List UInt8} (h:QD a):(a.map FI==List.map FI [104,116,116,112,115])=true:=by rw[h];decide
def AA1 (N:Nat) (s:List UInt8):ApiURL×Int:=if s.length>4096 then(N9,5) else if((Lm s).2 !=0)=true then(N9,(Lm s).2) else if(!((Lm s).1.hasScheme&&((Lm s).1.scheme.map FI==List.map FI [104,116,116,112,115])))=true then(N9,60) else AUp N (Lm s).1
theorem AmT{d a r:List UInt8} (h:AA2 d=some (a,r)):a.length≤d.length∧r.length≤d.length:=by
 unfold AA2 at h;split at h;·cases h;have:=bl List.length (SV d);grind
 grind
theorem Pp (s:List UInt8):(Lm s).1.authority.length≤s.length∧(Lm s).1.path.length≤s.length∧(Lm s).1.query.length≤s.length∧(Lm s).1.fragment.length≤s.length∧(Lm s).1.scheme.length≤s.length:=by
 have hc1:=Lp 35 s;have hc2:=Lp 63 (BN 35 s).1;unfold Lm;split;·simp[Aac]
 generalize hd:(BN 63 (BN 35 s).1).1=d at *;have key: ∀a h r,r.length≤d.length→a.length≤s.length→(usT s a h r).authority.length≤s.length∧(usT s a h r).path.length≤s.length∧(usT s a h r).query.length≤s.length∧(usT s a h r).fragment.length≤s.length∧(usT s a h r).scheme.length≤s.length:=fun a h r hr ha=>by grind[AiP,usT]
 split;·simp_all
 ·rename_i a r hc;have:=AmT hc;grind[Aac]
theorem AM4 (s:List UInt8) (hb:s.length≤1000000) (hN:20000≤N):JW N s=some (AA1 N s):=by
 unfold JW AA1;by_cases hl:s.length>4096;·rw[ap (by simp only[au];omega),ap hl];rfl
 rw[aj (by simp only[au];omega),aj hl,Qz s hb ff,aa];obtain⟨l1,l2,l3,l4,l5⟩:=Pp s;generalize Lm s=X at *;obtain⟨U,e⟩:=X;dsimp only[AB]at *;by_cases he:(e !=0)=true;·rw[ap he,ap he];rfl
 rw[aj he,aj he];cases hS:U.hasScheme;·rfl
 rw[ap rfl,Wl _ _ ff fh,aa];cases hE:(U.scheme.map FI==List.map FI [104,116,116,112,115]);·rfl
 simp only[bL,cd,al,aC];unfold AUp;cases hA:U.hasAuthority;·rfl
 rw[ap rfl,aj fh];rw[AfL,aa];cases hat:U.authority.contains 64;rotate_left;·rfl
 rw[aj fh,aj fh,Ap7 _ ff ff,aa];have q1:=ASV U.authority;have q2:=AJU U.authority;generalize hpS U.authority=H at *;by_cases e1:(H.2 !=0)=true;·rw[ap e1,ap e1];rfl
 rw[aj e1,aj e1];have n1:=NB (N:=N) U.path inP;have n2:=NB (N:=N) U.query inQ;have n3:=NB (N:=N) U.fragment inQ;rw[QO U.path _ hN,aa];change (if((EH N U.path inP).2 !=0)=true then _ else _)=_;by_cases e2:((EH N U.path inP).2 !=0)=true;·rw[ap e2,ap e2];rfl
 rw[aj e2,aj e2,QO U.query _ hN,aa];change (if((EH N U.query inQ).2 !=0)=true then _ else _)=_;by_cases e3:((EH N U.query inQ).2 !=0)=true;·rw[ap e3,ap e3];rfl
 rw[aj e3,aj e3,QO U.fragment _ hN,aa];change (if((EH N U.fragment inQ).2 !=0)=true then _ else _)=_;by_cases e4:((EH N U.fragment inQ).2 !=0)=true;·rw[ap e4,ap e4];rfl
 rw[aj e4,aj e4];change Option.bind (DN N (EH N U.path inP).1) _=_;rw[Amf _ hN ff,aa];have pl:=AAD (N:=N) (EH N U.path inP).1;have hp:Po N (EH N U.path inP).1=if(KC N (EH N U.path inP).1 []==[])=true then [47]else KC N (EH N U.path inP).1 []:=by unfold Po;split<;>simp_all
 have fin: ∀P:List UInt8,P=Po N (EH N U.path inP).1→(Option.bind (Fz N (ApiURL.mk H.1.host H.1.port P (EH N U.query inQ).1 (EH N U.fragment inQ).1 U.hasQuery U.hasFrag)) fun y25=>if(decide ((y25.length:Int)>4096))=true then (some ((ApiURL.mk [] 0 [] [] [] false false),5):Option (ApiURL×Int)) else some ((ApiURL.mk H.1.host H.1.port P (EH N U.query inQ).1 (EH N U.fragment inQ).1 U.hasQuery U.hasFrag),0))=some (if(KA ⟨H.1.host,H.1.port,Po N (EH N U.path inP).1,(EH N U.query inQ).1,(EH N U.fragment inQ).1,U.hasQuery,U.hasFrag⟩).length>4096 then(N9,5) else(⟨H.1.host,H.1.port,Po N (EH N U.path inP).1,(EH N U.query inQ).1,(EH N U.fragment inQ).1,U.hasQuery,U.hasFrag⟩,0)):=by
  intro P hP;subst hP;rw[AAL _ ⟨q1,by grind,by grind,by grind,by grind⟩ ff,aa];split;·rename_i Bl;rw[ap (by simp only[au]at Bl;omega)];rfl
  ·rename_i Bl;rw[aj (by simp only[au]at Bl;omega)]
 by_cases e5:(KC N (EH N U.path inP).1 []==[])=true;·rw[ap e5]at hp⊢;exact fin _ hp.symm
 ·rw[aj e5]at hp⊢;exact fin _ hp.symm
theorem AMh (s:List UInt8) (hb:s.length≤1000000) (hN:20000≤N):JP N s=some (AA1 N s):=by
 unfold JP AA1;by_cases hl:s.length>4096;·rw[ap (by simp only[au];omega),ap hl];rfl
 rw[aj (by simp only[au];omega),aj hl,UM s hb,aa];obtain⟨l1,l2,l3,l4,l5⟩:=Pp s;generalize Lm s=X at *;obtain⟨U,e⟩:=X;dsimp only[AB]at *;by_cases he:(e !=0)=true;·rw[ap he,ap he];rfl
 rw[aj he,aj he];cases hS:U.hasScheme;·rfl
 rw[ap rfl,Wh _ _ ff fh,aa];cases hE:(U.scheme.map FI==List.map FI [104,116,116,112,115]);·rfl
 simp only[bL,cd,al,aC];unfold AUp;cases hA:U.hasAuthority;·rfl
 rw[ap rfl,aj fh];rw[NM _ [64] fh ff,aa,ApU ff];cases hat:U.authority.contains 64;rotate_left;·rfl
 rw[aj fh,aj fh,ArR _ ff,aa];have q1:=ASV U.authority;have q2:=AJU U.authority;generalize hpS U.authority=H at *;by_cases e1:(H.2 !=0)=true;·rw[ap e1,ap e1];rfl
 rw[aj e1,aj e1];have n1:=NB (N:=N) U.path inP;have n2:=NB (N:=N) U.query inQ;have n3:=NB (N:=N) U.fragment inQ;rw[QE U.path _ hN fh,aa];change (if((EH N U.path inP).2 !=0)=true then _ else _)=_;by_cases e2:((EH N U.path inP).2 !=0)=true;·rw[ap e2,ap e2];rfl
 rw[aj e2,aj e2,QE U.query _ hN fh,aa];change (if((EH N U.query inQ).2 !=0)=true then _ else _)=_;by_cases e3:((EH N U.query inQ).2 !=0)=true;·rw[ap e3,ap e3];rfl
 rw[aj e3,aj e3,QE U.fragment _ hN fh,aa];change (if((EH N U.fragment inQ).2 !=0)=true then _ else _)=_;by_cases e4:((EH N U.fragment inQ).2 !=0)=true;·rw[ap e4,ap e4];rfl
 rw[aj e4,aj e4];change Option.bind (CX N (EH N U.path inP).1) _=_;rw[Ald _ hN ff,aa];have pl:=AAD (N:=N) (EH N U.path inP).1;have hp:Po N (EH N U.path inP).1=if(KC N (EH N U.path inP).1 []==[])=true then [47]else KC N (EH N U.path inP).1 []:=by unfold Po;split<;>simp_all
 have fin: ∀P:List UInt8,P=Po N (EH N U.path inP).1→(Option.bind (DZ N (ApiURL.mk H.1.host H.1.port P (EH N U.query inQ).1 (EH N U.fragment inQ).1 U.hasQuery U.hasFrag)) fun y25=>if(decide ((y25.length:Int)>4096))=true then (some ((ApiURL.mk [] 0 [] [] [] false false),5):Option (ApiURL×Int)) else some ((ApiURL.mk H.1.host H.1.port P (EH N U.query inQ).1 (EH N U.fragment inQ).1 U.hasQuery U.hasFrag),0))=some (if(KA ⟨H.1.host,H.1.port,Po N (EH N U.path inP).1,(EH N U.query inQ).1,(EH N U.fragment inQ).1,U.hasQuery,U.hasFrag⟩).length>4096 then(N9,5) else(⟨H.1.host,H.1.port,Po N (EH N U.path inP).1,(EH N U.query inQ).1,(EH N U.fragment inQ).1,U.hasQuery,U.hasFrag⟩,0)):=by
  intro P hP;subst hP;rw[Rn _ ⟨q1,by grind,by grind,by grind,by grind⟩ ff,aa];split;·rename_i Bl;rw[ap (by simp only[au]at Bl;omega)];rfl
  ·rename_i Bl;rw[aj (by simp only[au]at Bl;omega)]
 by_cases e5:(KC N (EH N U.path inP).1 []==[])=true;·rw[ap e5]at hp⊢;exact fin _ hp.symm
 ·rw[aj e5]at hp⊢;exact fin _ hp.symm
theorem AWY{a b:List UInt8} (h:QD a) (hb:(a++58::b).length≤1000000) (hN:20000≤N):AA1 N (a++58::b)=AXq N a b:=by
 unfold AA1 AXq;by_cases hl:(a++58::b).length>4096;·simp_all
 rw[aj hl,aj hl];have e:Lm (a++58::b)=(AYi a b,0):=co ((Qz (N:=N) _ hb ff).symm.trans (AlY h ff hN));rw[e,aj (show¬(((0:Int) !=0)=true) by decide),show(AYi a b).hasScheme=true from rfl,show(AYi a b).scheme=a from rfl,AiN h];rfl
theorem Amb{a b:List UInt8} (h:QD a) (hb:(a++58::b).length≤1000000) (hN:20000≤N):JW N (a++58::b)=some (AXq N a b):=by grind[AM4,AWY]
theorem AlE{a b:List UInt8} (h:QD a) (hb:(a++58::b).length≤1000000) (hN:20000≤N):JP N (a++58::b)=some (AXq N a b):=by grind[AMh,AWY]
end
end Go.VM
namespace Go.VM
section
variable{N:Nat}
theorem Gh{n b:Nat} (h:n≤1000000) (hb:b≤1000):Ac n b:=by unfold Ac;have:n * b≤1000000 * 1000:=eX h hb;omega
theorem Auj (c:UInt8) (l:List UInt8) (hb:l.length≤1000000):Br N l [c]=some (((l.takeWhile (· !=c)).length:Nat):Int):=by grind[bne,NM]
theorem AhA{c:UInt8}{l:List UInt8}:((((l.takeWhile (· !=c)).length:Nat):Int)==(l.length:Int))=!l.contains c:=by grind[Rt,P7]
theorem AgJ{c:UInt8}{l:List UInt8} (h:l.contains c=true) (hb:l.length≤1000000):sub l 0 (((l.takeWhile (· !=c)).length:Nat):Int)=some (BN c l).1∧sub l (wr .i64 ((((l.takeWhile (· !=c)).length:Nat):Int)+1)) (l.length:Int)=some (BN c l).2.1:=by have hlt:=P7 h;obtain⟨s1,s2⟩:=AFi h hb;rw[OG,ap h]at s1 s2;grind[wr,Aq]
theorem Alz{c:UInt8}{l:List UInt8}:(BN c l).2.2=l.contains c:=by grind[Vk,Qb]
end
end Go.VM
namespace Go.VM
section
variable{N:Nat}
end
end Go.VM
namespace Go.VM
section
variable{N:Nat}
theorem Ut (d:Bool) (b s:List UInt8) (h:b.length+s.length≤1000000000):AY N ⟨d,b⟩ s=some ((s.length:Int),(),⟨true,b++s⟩):=by unfold AY FV;cases d<;>simp only[al,aC,aB,aa]<;>rw[AR (Ry ff)]
end
end Go.VM
