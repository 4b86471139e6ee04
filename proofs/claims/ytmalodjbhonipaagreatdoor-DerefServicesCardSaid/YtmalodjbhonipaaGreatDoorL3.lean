import Derived.Test.YtmalodjbhonipaaGreatDoorL2
set_option linter.unusedVariables false
set_option linter.unusedSimpArgs false
namespace Go.VM
section
variable{N:Nat}
theorem AF2{out:List UInt8}{bq:List Int} (h:List.take out.length bq=List.map AC out):List.take (Gj out).length bq=List.map AC (Gj out):=by
 have hle:=N9 out;have e:List.take (Gj out).length (List.take out.length bq)=List.take (Gj out).length bq:=by rw[eM,eH hle]
 rw[←e,h];unfold Gj;split;·rename_i i hi;have:=QO hi;rw[bm,eH eT,d7]
 ·simp
theorem AQx (out:List UInt8) (v:Int) (hv:v=(match KP out out.length with|some i=>(i:Int)|none=> -1)):(if v>0 then v else 0).toNat=(Gj out).length∧0≤(if v>0 then v else 0)∧(if v>0 then v else 0)≤(out.length:Int):=by subst hv;unfold Gj;cases h:KP out out.length with |none=>simp| some i=>have:=QO h;simp only[bm];split<;>omega
theorem Iy (hN:20000≤N): ∀(k:Nat) (s out:List UInt8) (bq:List Int),s.length<k→s.length+out.length≤16380→out.length≤bq.length→List.take out.length bq=List.map AC out→Ad N k s out.length bq=some (G7 k s out)
 |0,s,out,bq,h,_,_,_=>by omega
 | k + 1,s,out,bq,hk,hb,hl,ht=>by
  rw[Ad,G7];have hchr:List.map FZ (List.take out.length bq)=out:=by rw[ht,Ib]
  have hso:=N9 out;by_cases h0:s=[];·rw[ah (by simpa using h0),ah h0,AU ⟨hl,by unfold AL;omega⟩,hchr]
  have hpos:0<s.length:=cl.2 h0;rw[ag (by simpa using h0),ag h0,Nr,aa];by_cases h1:preB [46,46,47] s=true;·have:=KV h1;simp only[ae,an]at this;rw[ah h1,ah h1,show(3:Int)=((3:Nat):Int)from rfl,Bp eT,aa];exact Iy hN k _ out bq eW eW hl ht
  rw[ag h1,ag h1,Nr,aa];by_cases h2:preB [46,47] s=true;·have:=KV h2;simp only[ae,an]at this;rw[ah h2,ah h2,show(2:Int)=((2:Nat):Int)from rfl,Bp eT,aa];exact Iy hN k _ out bq eW eW hl ht
  rw[ag h2,ag h2,Nr,aa];by_cases h3:preB [47,46,47] s=true;·have:=KV h3;simp only[ae,an]at this;rw[ah h3,ah h3,show(2:Int)=((2:Nat):Int)from rfl,Bp eT,aa];exact Iy hN k _ out bq eW eW hl ht
  rw[ag h3,ag h3];by_cases h4:s=[47,46];·rw[ah (by simpa using h4),ah h4];have:=a7 List.length h4;simp only[ae,an]at this;exact Iy hN k _ out bq eW eW hl ht
  rw[ag (by simpa using h4),ag h4];dsimp only[AB];rw[Nr,aa];have hcut: ∀s2:List UInt8,s2.length<k→s2.length+out.length≤16380→∀(v:Int),v=(match KP out out.length with|some i=>(i:Int)|none=> -1)→grd (0≤(if v>0 then v else 0)∧(if v>0 then v else 0)≤(out.length:Int)) (Ad N k s2 ((if v>0 then v else 0).toNat) bq)=some (G7 k s2 (Gj out)):=by intro s2 hs2 hs3 v hv;obtain⟨e1,e2,e3⟩:=AQx out v hv;rw[AU ⟨e2,e3⟩,e1];exact Iy hN k s2 (Gj out) bq hs2 eT eT (AF2 ht)
  have htail: ∀s2:List UInt8,s2.length<k→s2.length+out.length≤16380→(grd (out.length≤bq.length∧AL out.length) (Option.bind (strings_LastIndexByte N (List.map FZ (List.take out.length bq)) 47) fun y20=>grd (0≤(if y20>0 then y20 else 0)∧(if y20>0 then y20 else 0)≤(out.length:Int)) (Ad N k s2 ((if y20>0 then y20 else 0).toNat) bq)))=some (G7 k s2 (Gj out)):=by intro s2 hs2 hs3;rw[AU ⟨hl,by unfold AL;omega⟩,hchr,VP out eT eT,aa];exact hcut s2 hs2 hs3 _ rfl
  by_cases h5:preB [47,46,46,47] s=true
  ·obtain⟨t,rfl⟩:=SK h5;have e3:([47,46,46,47]++t:List UInt8).drop 3=47::t:=rfl;have ep:preB [47] (47::t)=true:=by unfold preB;simp
   simp only[aj,ae,an]at hk hb;rw[ah h5,ah h5,ah rfl,show(3:Int)=((3:Nat):Int)from rfl,Bp eU,aa,e3,ADu,ah ep,aa,BR eW];exact htail (47::t) (by simp only[ae];omega) (by simp only[ae];omega)
  rw[ag h5,ag h5];by_cases h6:s=[47,46,46];·subst h6;simp only[ae,an]at hk hb;rw[ah (by rfl),ah rfl,show(3:Int)=((3:Nat):Int)from rfl,Bp eU,aa,ADu,ag eV,aa,BR eU];exact htail [47] (by simp only[ae,an];omega) (by simp only[ae,an];omega)
  rw[ag (by simpa using h6),ag h6];have hdd:(if(s==([46]:List UInt8))=true then Ad N k [] out.length bq else if(s==([46,46]:List UInt8))=true then Ad N k [] out.length bq else Option.bind (sub s 1 (s.length:Int)) fun x26=>Option.bind (strings_IndexByte N x26 47) fun y27=>if((wr .i64 (1+y27))==0)=true then Option.bind (sub s 0 (s.length:Int)) fun x33=>grd (out.length≤bq.length∧CW (out.length+x33.length) 1) (Option.bind (sub s (s.length:Int) (s.length:Int)) fun x35=>Ad N k x35 (out.length+x33.length) (List.take out.length bq++List.map AC x33)) else Option.bind (sub s 0 (wr .i64 (1+y27))) fun x33=>grd (out.length≤bq.length∧CW (out.length+x33.length) 1) (Option.bind (sub s (wr .i64 (1+y27)) (s.length:Int)) fun x35=>Ad N k x35 (out.length+x33.length) (List.take out.length bq++List.map AC x33)))=some (if s=[46]∨s=[46,46]then G7 k [] out else G7 k (s.drop (Jr s)) (out++s.take (Jr s))):=by
   have hrec:=Iy hN k [] out bq eW eW hl ht;by_cases h7:s=[46];·rw[ah (by simpa using h7),ah (.inl h7)];exact hrec
   by_cases h8:s=[46,46];·rw[ag (by simpa using h7),ah (by simpa using h8),ah (.inr h8)];exact hrec
   have hsl:=AOG h0;have h1s:1≤Jr s:=by unfold Jr;omega
   rw[ag (by simpa using h7),ag (by simpa using h8),ag (by rintro(h|h);exact h7 h;exact h8 h),show(1:Int)=((1:Nat):Int)from rfl,Bp eT,aa,show(47:Int)=AC 47 from rfl,I9,aa,IB];have fin:(Option.bind (sub s 0 ((Jr s:Nat):Int)) fun x33=>grd (out.length≤bq.length∧CW (out.length+x33.length) 1) (Option.bind (sub s ((Jr s:Nat):Int) (s.length:Int)) fun x35=>Ad N k x35 (out.length+x33.length) (List.take out.length bq++List.map AC x33)))=some (G7 k (s.drop (Jr s)) (out++s.take (Jr s))):=by rw[show(0:Int)=((0:Nat):Int)from rfl,Cm s 0 _ (bk _) hsl,aa,AU ⟨hl,KN eW⟩,Bp hsl,aa,aT,bA,ht];have hlen:out.length+(List.take (Jr s) s).length=(out++List.take (Jr s) s).length:=eU;rw[hlen];exact Iy hN k _ (out++s.take (Jr s)) _ eW eW eU (by rw[aM eU];simp)
   by_cases hc:(s.drop 1).contains 47=true
   ·have e:wr .i64 (((1:Nat):Int)+(((s.drop 1).takeWhile (· !=47)).length:Int))=((Jr s:Nat):Int):=by unfold Jr at hsl⊢;rw[AQ eT];omega
    rw[ah hc,e,ag eW];exact fin
   ·rw [ag hc,ah (by rfl)];have hc':(s.drop 1).contains 47=false:=by simpa using hc
    have e:Jr s=s.length:=by
     have hall:(s.drop 1).takeWhile (· !=(47:UInt8))=s.drop 1:=by exact LD _ hc'
     unfold Jr;rw[hall,aw];omega
    rw[e]at fin;rw[e];exact fin
  by_cases h7:(s==([46]:List UInt8))=true;·rw[ah h7]at hdd⊢;rw[ah rfl,hdd]
  ·rw[ag h7]at hdd⊢;rw[hdd]
theorem SE (s:List UInt8) (hN:20000≤N) (hb:s.length≤16380):Dh N s=some (G7 N s []):=by unfold Dh;rw[AU (by unfold Q8;omega)];have:=Iy hN N s [] (List.replicate (0:Int).toNat 0) eT (by simpa using hb) eU eU;simpa using this
theorem JZ: ∀(k:Nat) (s out:List UInt8),(G7 k s out).length≤s.length+out.length
 |0,s,out=>by simp[G7]
 | k+1,s,out=>by
  have hso:=N9 out;rw[G7];split;·omega
  split;·have:=JZ k (s.drop 3) out;simp only[aw]at this;omega
  split;·have:=JZ k (s.drop 2) out;simp only[aw]at this;omega
  split;·have:=JZ k (s.drop 2) out;simp only[aw]at this;omega
  split;·rename_i h;have:=JZ k [47] out;rw[h];simp only[ae,an]at *;omega
  split;·have:=JZ k (s.drop 3) (Gj out);simp only[aw]at this;omega
  split;·rename_i h;have:=JZ k [47] (Gj out);rw[h];simp only[ae,an]at *;omega
  split;·have:=JZ k [] out;simp only[an]at this;omega
  ·have:=JZ k (s.drop (Jr s)) (out++s.take (Jr s));simp only[aw,aj,bm]at this;omega
end
end Go.VM
namespace Go.VM
section
variable{N:Nat}
def L6 (a:List UInt8):Prop:=a.map E5=[104,116,116,112,115]
theorem Qt{a:List UInt8} (h:L6 a):a.length=5∧∀x,x∈a→H7 x=true∧x.toNat<128∧x≠35∧x≠63∧x≠47∧x≠58∧x≠64:=by
 refine⟨by have:=a7 List.length h;simpa using this,fun x AO=>?_⟩;have hm:E5 x∈([104,116,116,112,115]:List UInt8):=by rw[←h];exact dE AO
 have key:=Ct (f:=fun n=>(!([104,116,116,112,115]:List UInt8).contains (E5 (UInt8.ofNat n)))||(V9 n&&decide (n<128)&&decide (n≠35)&&decide (n≠63)&&decide (n≠47)&&decide (n≠58)&&decide (n≠64))) (g:=fun _=>true) (by kernel_rfl) x;simp only[bL]at key;rw[show([104,116,116,112,115]:List UInt8).contains (E5 x)=true by simpa using hm]at key;simp only[bI,bd,az,al]at key;obtain⟨⟨⟨⟨⟨⟨k1,k2⟩,k3⟩,k4⟩,k5⟩,k6⟩,k7⟩:=key;refine⟨k1,k2,?_,?_,?_,?_,?_⟩<;>(rintro rfl;first| exact k3 rfl| exact k4 rfl| exact k5 rfl| exact k6 rfl| exact k7 rfl)
theorem Pj{c:UInt8}: ∀(pre t:List UInt8),(∀x,x∈pre→x≠c)→AP c (pre++t)=(pre++(AP c t).1,(AP c t).2)
 |[],t,_=>rfl
 | x::pre,t,h=>by
  have ih:=Pj pre t fun y hy=>h y (by simp[hy]);have AO:x≠c:=h x eU;have e1:(c==x)=false:=by simpa using fun e:c=x=>AO e.symm
  have e2:(x !=c)=true:=by simpa using AO
  rw[aJ];cases hc:(pre++t).contains c;·rw[Lf (by rw[aX,e1,hc];rfl)];rw[Lf hc]at ih;simp only[aA]at ih;obtain⟨i1,i2⟩:=ih;rw[aJ,←i1,←i2]
  ·rw[FT (by rw[aX,e1,hc];rfl),aP,e2,bV,e2];rw[FT hc]at ih;simp only[aA]at ih;obtain⟨i1,i2⟩:=ih;simp only[aE];rw[aJ,←i1,←i2]
theorem ATm{α:Type} (c:UInt8) (l:List UInt8) (hb:l.length≤1000000) (k:List UInt8×List UInt8×Bool→Option α):(Option.bind (Aw N l [c]) fun y=>if(decide (y<(l.length:Int)))=true then Option.bind (sub l (wr .i64 (y+1)) (l.length:Int)) fun x7=>Option.bind (sub l 0 y) fun x8=>k (x8,x7,true)else k (l,[],false))=k (AP c l):=by
 have hw:(fun x:UInt8=>!([c]:List UInt8).contains x)=(fun x=>x !=c):=by funext x;simp[bne];rfl
 rw[I4 l [c] eU eT,aa,hw];cases hc:l.contains c;·rw[LD l hc,ag eU,Lf hc]
 ·have hlt:=Je hc;obtain⟨s1,s2⟩:=Zj hc hb;rw[IB,ah hc]at s1 s2;have w0:wr .i64 (((l.takeWhile (· !=c)).length:Int)+0)=((l.takeWhile (· !=c)).length:Int):=by rw[AQ eT];omega
  rw[w0]at s1;rw[ah eW,show((1:Int))=(([c]:List UInt8).length:Int)from rfl,s2,aa,s1,aa,FT hc]
def Jn (r:List UInt8):List UInt8×List UInt8×Bool:=if preB [47,47] r=true then((r.drop 2).dropWhile (· !=47),(r.drop 2).takeWhile (· !=47),true)else(r,[],false)
def AKU (a b:List UInt8):ApiURI:=⟨a,(Jn (AP 63 (AP 35 b).1).1).2.1,(Jn (AP 63 (AP 35 b).1).1).1,(AP 63 (AP 35 b).1).2.1,(AP 35 b).2.1,true,(Jn (AP 63 (AP 35 b).1).1).2.2,(AP 63 (AP 35 b).1).2.2,(AP 35 b).2.2⟩
theorem PO (k2:Unit→Option Bool): ∀(l:List UInt8) (i:Int),(∀x,x∈l→H7 x=true)→Bw N k2 l i=k2 () |[],i,_=>by rw[Bw]| c::l,i,h=>by rw[Bw];dsimp only[AB];rw[N8,aa,h c eU,ah rfl,ag eV];exact PO k2 l (i+1) fun x AO=>h x (by simp[AO])
theorem AFD{a:List UInt8} (h:L6 a):G5 N a=some true:=by obtain⟨h5,hl⟩:=Qt h;unfold G5;rw[AB,BR eT,PO _ a 0 fun x AO=>(hl x AO).1];cases a with |nil=>simp at h5|cons _ _=>rfl
theorem Wq{p:UInt8→Bool}: ∀(a:List UInt8){x:UInt8}{t:List UInt8},(∀y,y∈a→p y=true)→p x=false→(a++x::t).takeWhile p=a |[],x,t,_,AO=>by rw[ba,aP,AO];rfl|y::a,x,t,h,AO=>by rw[aJ,aP,h y eU,ah rfl,Wq a (fun z hz=>h z (by simp[hz])) AO]
theorem AUN{a:List UInt8} (h:L6 a): ∀y,y∈a→(!([58,47]:List UInt8).contains y)=true:=fun y hy=>by obtain⟨_,_,_,_,k5,k6,_⟩:=(Qt h).2 y hy;simp[k5,k6]
theorem APw{α:Type}{d:JD Int} (r:List UInt8) (hb:r.length≤1000000) (k:List UInt8×List UInt8×Bool→Option α):(Option.bind (strings_CutPrefix N r ([47,47]:List UInt8)) fun y24=>if y24.2=true then Option.bind (strings_IndexByte N y24.1 47) fun y26=>AA (fun j28:Int=>Option.bind (sub y24.1 0 j28) fun x32=>Option.bind (sub y24.1 j28 (y24.1.length:Int)) fun x33=>k (x33,x32,true)) (fun k29=>if(decide (y26<0))=true then k29 (y24.1.length:Int) else k29 y26) d else k (r,[],false))=k (Jn r):=by
 rw[AHT,aa];unfold Jn;by_cases h:preB [47,47] r=true
 ·rw [ah h,ah h];simp only[aE,ae,an];rw[show(47:Int)=AC 47 from rfl,I9,aa,IB,AB];generalize hq:r.drop (0+1+1)=q;have hql:q.length≤1000000:=by rw[←hq,aw];omega
  cases hc:q.contains 47
  ·have hd:q.dropWhile (· !=(47:UInt8))=[]:=by have e:=aU (p:=(· !=(47:UInt8))) (l:=q);rw[LD q hc]at e;simpa using e
   simp only[av,aR];rw[ah eV,show(0:Int)=((0:Nat):Int)from rfl,Cm q 0 _ (bk _) (ao _),aa,Bp (ao _),aa,LD q hc,hd];simp
  ·have hlt:=Je hc;simp only[aE];rw[ag eU,show(0:Int)=((0:Nat):Int)from rfl,Cm q 0 _ (bk _) eT,aa,Bp eT,aa,aT,bA,Fv,GQ]
 ·rw[ag h,ag h];rfl
theorem AUv{α:Type} (r:List UInt8) (hb:r.length≤1000000) (k:List UInt8×List UInt8×Bool→Option α):(Option.bind (Dt N r ([47,47]:List UInt8)) fun y36=>if y36=true then Option.bind (sub r 2 (r.length:Int)) fun x38=>Option.bind (Aw N x38 ([47]:List UInt8)) fun y39=>Option.bind (sub r 2 (wr .i64 (2+y39))) fun x41=>Option.bind (sub r (wr .i64 (2+y39)) (r.length:Int)) fun x42=>k (x42,x41,true) else k (r,[],false))=k (Jn r):=by
 have hw:(fun x:UInt8=>!([47]:List UInt8).contains x)=(fun x=>x !=47):=by funext x;simp[bne];rfl
 rw[Md,aa];unfold Jn;by_cases h:preB [47,47] r=true
 ·have hl:=KV h;simp only[ae,an]at hl;have hle:=Kq (· !=(47:UInt8)) (r.drop 2);rw[aw]at hle;rw[ah h,ah h,show(2:Int)=((2:Nat):Int)from rfl,Bp eT,aa,I4 _ [47] eU (by rw[aw];omega),aa,hw];have e:wr .i64 (((2:Nat):Int)+(((r.drop 2).takeWhile (fun x=>x !=47)).length:Int))=((2+((r.drop 2).takeWhile (fun x=>x !=47)).length:Nat):Int):=by rw[AQ eT];omega
  rw[e,Cm r 2 _ eT eT,aa,Bp eT,aa,show 2+((r.drop 2).takeWhile (fun x=>x !=47)).length-2=((r.drop 2).takeWhile (fun x=>x !=47)).length by omega,Fv,←a8,GQ]
 ·rw[ag h,ag h]
theorem AU3{c:UInt8}{a b:List UInt8} (h: ∀x,x∈a→x≠c) (hc:(58:UInt8)≠c):AP c (a++58::b)=(a++58::(AP c b).1,(AP c b).2):=by
 rw[show a++58::b=(a++[58])++b by simp,Pj (a++[58]) b (by
  intro x AO;simp only[aV,aL,cm,dj]at AO;rcases AO with AO|rfl;·exact h x AO
  ·exact hc)];simp
theorem ASS{a b:List UInt8} (h:L6 a) (hb:(a++58::b).length≤16384) (hN:20000≤N):HZ N (a++58::b)=some (AKU a b,0):=by
 obtain⟨h5,hl⟩:=Qt h;simp only[aj,ae]at hb;have hc1:=FE 35 b;have hc2:=FE 63 (AP 35 b).1;unfold HZ AKU;rw[ag (by simp only[aj,ae,al];omega),Kv 35 _ (by simp only[aj,ae];omega),aa,AU3 (c:=35) (fun x AO=>(hl x AO).2.2.1) eV,Kv 63 _ (by simp only[aj,ae];omega),aa,AU3 (c:=63) (fun x AO=>(hl x AO).2.2.2.1) eV];dsimp only;generalize (AP 63 (AP 35 b).1)=d at *;obtain⟨r,q,hq⟩:=d;dsimp only at *;have hset:=AUN h;have htw:((a++58::r).takeWhile fun c=>!([58,47]:List UInt8).contains c)=a:=Wq a hset eV;have hany:(a++58::r).any ([58,47]:List UInt8).contains=true:=by rw[List.any_append];simp
 refine(Bo (a:=(r,a,true)) fun k=>?_).trans ?_
 ·rw[VV eV eV eV (by intro _ c hc;rw[htw]at hc;exact(hl c hc).2.1) (by simp only[aj,ae];omega) eT,aa];unfold AK4;rw[ah hany,htw];have hget:(a++58::r)[a.length]?=some 58:=by rw[dN (ao _),cQ];rfl
  dsimp only[AB];rw[ah eU,HV,hget,aa,ah eV,show(0:Int)=((0:Nat):Int)from rfl,Cm _ 0 _ (bk _) eU,aa,aT,bA,dg,AFD h,aa,ah rfl,show wr .i64 ((a.length:Int)+1)=((a.length+1:Nat):Int) by rw[AQ eT];omega,Bp eU,aa];rw[show(a++58::r).drop (a.length+1)=r by rw[←a8,cq];rfl]
 ·dsimp only;refine(Bo (a:=Jn r) fun k=>APw r eT k).trans ?_;rfl
end
end Go.VM
namespace Go.VM
section
variable{N:Nat}
def ANU (c:UInt8):Bool:=([43,45,46]:List UInt8).contains c
def AGp (c:UInt8):Bool:=H7 c||(Fy c||ANU c)
def UX:List UInt8→Bool |[]=>false|c::t=>H7 c&&t.all AGp
def IC (c:UInt8):Bool:=!([58,47]:List UInt8).contains c
theorem Tm{p:UInt8→Bool} (l:List UInt8):l[(l.takeWhile p).length]?=(l.dropWhile p).head?:=by rw[←GQ,List.head?_drop]
theorem VQ (set:List UInt8): ∀l:List UInt8,l.any set.contains=!((l.dropWhile fun c=>!set.contains c)==[])
 |[]=>rfl
 | c::l=>by
  rw[b9,bV];cases h:set.contains c;·rw[bd,VQ set l];rfl
  ·simp
def Ub (d:List UInt8):Option (List UInt8×List UInt8):=if(d.dropWhile IC).head?=some 58 then some (d.takeWhile IC,(d.dropWhile IC).drop 1)else none
def AKA:ApiURI:=⟨[],[],[],[],[],false,false,false,false⟩
def usT (s:List UInt8) (a:List UInt8) (h:Bool) (d:List UInt8):ApiURI:=⟨a,(Jn d).2.1,(Jn d).1,(AP 63 (AP 35 s).1).2.1,(AP 35 s).2.1,h,(Jn d).2.2,(AP 63 (AP 35 s).1).2.2,(AP 35 s).2.2⟩
def Ij (s:List UInt8):ApiURI×Int:=if s.length>16384 then(AKA,5) else match Ub (AP 63 (AP 35 s).1).1 with |none=>(usT s [] false (AP 63 (AP 35 s).1).1,0)|some (a,r)=>if UX a=true then(usT s a true r,0)else(AKA,6)
theorem AYI (c:UInt8):decide (Go.Lib.indexByte ([43,45,46]:List UInt8) c<0)=!ANU c:=by
 have h:=G9 c ([43,45,46]:List UInt8);unfold ANU;rw[←h];by_cases k:Go.Lib.indexByte ([43,45,46]:List UInt8) c<0;·rw[aF k,aO eT];rfl
 ·rw[aO k,aF eT];rfl
theorem VG (k2:Unit→Option Bool): ∀(l:List UInt8) (i:Int),1≤i→Bw N k2 l i=if l.all AGp=true then k2 ()else some false
 |[],i,_=>by rw[Bw];rfl
 | c::l,i,h=>by
  have ih:=VG k2 l (i+1) eT;have h0:(i==0)=false:=by simp;omega
  rw[Bw];dsimp only[AB];rw[N8,aa,aG];unfold AGp at *;cases H7 c
  ·rw[ag eV,h0,ag eV,PZ,aa];cases Fy c
   ·rw[ag eV,I9,aa,AYI];cases ANU c;·rfl
    ·rw[ag eV,ih];rfl
   ·rw[ah rfl,ag eV,ih];rfl
  ·rw[ah rfl,ag eV,ih];rfl
theorem AT3{a:List UInt8} (hb:a.length≤1000000):G5 N a=some (UX a):=by
 unfold G5 UX;rw[AB,BR eT];cases a with
 |nil=>rw[Bw];rfl
 | cons c t=>
  rw[Bw];dsimp only[AB];rw[N8,aa];cases H7 c;·rfl
  ·rw[ah rfl,ag eV,VG _ t _ eT];cases t.all AGp<;>rfl
theorem VD (k2:Unit→Option Bool): ∀(l:List UInt8) (i:Int),1≤i→CQ N k2 l i=if l.all AGp=true then k2 ()else some false
 |[],i,_=>by rw[CQ];rfl
 | c::l,i,h=>by
  have ih:=VD k2 l (i+1) eT;have h0:(i==0)=false:=by simp;omega
  rw[CQ];dsimp only[AB];rw[Nw,aa,aG];unfold AGp at *;cases H7 c
  ·rw[ag eV,h0,ag eV,OH,aa];cases Fy c
   ·rw[ag eV,TF _ _ eV,aa];unfold ANU;cases ([43,45,46]:List UInt8).contains c;·rfl
    ·rw[ag eV,ih];rfl
   ·rw[ah rfl,ag eV,ih];rfl
  ·rw[ah rfl,ag eV,ih];rfl
theorem ASi{a:List UInt8} (hb:a.length≤1000000):Hq N a=some (UX a):=by
 unfold Hq UX;rw[AB,BR eT];cases a with
 |nil=>rw[CQ];rfl
 | cons c t=>
  rw[CQ];dsimp only[AB];rw[Nw,aa];cases H7 c;·rfl
  ·rw[ah rfl,ag eV,VD _ t _ eT];cases t.all AGp<;>rfl
def Q4{α:Type} (d:List UInt8) (e:Option α) (k:List UInt8×List UInt8×Bool→Option α):Option α:=match Ub d with |none=>k (d,[],false)|some (a,r)=>if UX a=true then k (r,a,true)else e
theorem NF (d:List UInt8):d.takeWhile IC++d.dropWhile IC=d:=aU
theorem AI4{α:Type}{d:List UInt8} (hb:d.length≤1000000) (hN:20≤N) (e:Option α) (k:List UInt8×List UInt8×Bool→Option α){D:JD Bool}:(Option.bind (strings_IndexAny N d ([58,47]:List UInt8)) fun y9=>AA (fun j11:Bool=>if j11=true then Option.bind (sub d 0 y9) fun x16=>Option.bind (G5 N x16) fun y17=>if y17=true then Option.bind (sub d (wr .i64 (y9+1)) (d.length:Int)) fun x19=>k (x19,x16,true) else e else k (d,[],false)) (fun k12=>if(decide (y9≥0))=true then Option.bind (idx d y9) fun x15=>k12 ((AC x15)==58) else k12 false) D)=Q4 d e k:=by
 rw[AJE hb hN,aa];dsimp only[AB];unfold AK4 Q4 Ub;rw[VQ];change _=_;have hw:(d.takeWhile fun c=>!([58,47]:List UInt8).contains c)=d.takeWhile IC:=rfl;have hd:(d.dropWhile fun c=>!([58,47]:List UInt8).contains c)=d.dropWhile IC:=rfl;rw[hw,hd];have hs:=NF d;cases AO:d.dropWhile IC with
 |nil=>rfl
 | cons c t=>
  have hlen:d.length=(d.takeWhile IC).length+(t.length+1):=by have:=a7 List.length hs;rw[AO]at this;simpa using this.symm
  have hget:d[(d.takeWhile IC).length]?=some c:=by rw[Tm,AO];rfl
  rw[show(!((c::t)==([]:List UInt8)))=true from rfl,ah rfl,ah eU,HV,hget,aa,List.head?_cons];by_cases h:c=58
  ·subst h;rw[ah eV,ah rfl,show(0:Int)=((0:Nat):Int)from rfl,Cm _ 0 _ (bk _) eT,aa,aT,bA,Fv,AT3 eT,aa];dsimp only;cases UX (d.takeWhile IC);·rfl
   ·rw[ah rfl,ah rfl,show wr .i64 (((d.takeWhile IC).length:Int)+1)=(((d.takeWhile IC).length+1:Nat):Int) by rw[AQ eT];omega,Bp eT,aa,←a8,GQ,AO]
  ·have hb':((AC c)==58)=false:=by rw[show(58:Int)=AC 58 from rfl,AT9];simpa using h
   rw[hb',ag eV,ag (by simpa using h)]
theorem AKp{α:Type}{d:List UInt8} (hb:d.length≤1000000) (e:Option α) (k:List UInt8×List UInt8×Bool→Option α){D:JD Bool}:(Option.bind (Aw N d ([58,47]:List UInt8)) fun y9=>AA (fun j11:Bool=>if j11=true then Option.bind (sub d 0 y9) fun x16=>Option.bind (Hq N x16) fun y17=>if y17=true then Option.bind (sub d (wr .i64 (y9+1)) (d.length:Int)) fun x19=>k (x19,x16,true) else e else k (d,[],false)) (fun k12=>if(decide (y9<(d.length:Int)))=true then Option.bind (idx d y9) fun x15=>k12 ((AC x15)==58) else k12 false) D)=Q4 d e k:=by
 rw[I4 _ _ eV eT,aa];dsimp only[AB];unfold Q4 Ub;have hw:(d.takeWhile fun c=>!([58,47]:List UInt8).contains c)=d.takeWhile IC:=rfl;rw[hw];have hs:=NF d;cases AO:d.dropWhile IC with
 | nil=>
  have hlen:d.length=(d.takeWhile IC).length:=by have:=a7 List.length hs;rw[AO]at this;simpa using this.symm
  rw[ag eW,ag eV];rfl
 | cons c t=>
  have hlen:d.length=(d.takeWhile IC).length+(t.length+1):=by have:=a7 List.length hs;rw[AO]at this;simpa using this.symm
  have hget:d[(d.takeWhile IC).length]?=some c:=by rw[Tm,AO];rfl
  rw[ah eW,HV,hget,aa,List.head?_cons];by_cases h:c=58
  ·subst h;rw[ah eV,ah rfl,show(0:Int)=((0:Nat):Int)from rfl,Cm _ 0 _ (bk _) eT,aa,aT,bA,Fv,ASi eT,aa];dsimp only;cases UX (d.takeWhile IC);·rfl
   ·rw[ah rfl,ah rfl,show wr .i64 (((d.takeWhile IC).length:Int)+1)=(((d.takeWhile IC).length+1:Nat):Int) by rw[AQ eT];omega,Bp eT,aa,←a8,GQ,AO]
  ·have hb':((AC c)==58)=false:=by rw[show(58:Int)=AC 58 from rfl,AT9];simpa using h
   rw[hb',ag eV,ag (by simpa using h)]
theorem ABn{α β:Type}{K:α→Option β}{body:(α→Option β)→Option β}{d:JD α}{X:(α→Option β)→Option β} (h: ∀k:α→Option β,body k=X k):AA K body d=X K:=h K
theorem Mq (s:List UInt8) (hb:s.length≤1000000) (hN:20≤N):HZ N s=some (Ij s):=by
 have hc1:=FE 35 s;have hc2:=FE 63 (AP 35 s).1;unfold HZ Ij;by_cases h:s.length>16384;·rw[ah eW,ah h];rfl
 rw[ag eW,ag h,Kv 35 _ eT,aa,Kv 63 _ eT,aa];generalize hd:(AP 63 (AP 35 s).1).1=d at *;refine(ABn (X:=fun k=>Q4 d (some (AKA,6)) k) fun k=>AI4 eT hN _ k).trans ?_;unfold Q4;cases hcol:Ub d with
 | none=>dsimp only;refine(Bo (a:=Jn d) fun k=>APw d eT k).trans ?_;rfl
 | some p=>
  obtain⟨a,r⟩:=p;dsimp only;cases UX a;·rfl
  ·have hr:r.length≤d.length:=by
    unfold Ub at hcol;split at hcol;·cases hcol;have:=a7 List.length (NF d);simp only[aj]at this;rw[aw];omega
    ·cases hcol
   rw[ah rfl,ah rfl];refine(Bo (a:=Jn r) fun k=>APw r eT k).trans ?_;rfl
theorem Oi (s:List UInt8) (hb:s.length≤1000000):Gw N s=some (Ij s):=by
 have hc1:=FE 35 s;have hc2:=FE 63 (AP 35 s).1;unfold Gw Ij;by_cases h:s.length>16384;·rw[ah eW,ah h];rfl
 rw[ag eW,ag h];refine(Bo (a:=AP 35 s) fun k=>ATm 35 _ eT k).trans ?_;refine(Bo (a:=AP 63 (AP 35 s).1) fun k=>ATm 63 _ eT k).trans ?_;generalize hd:(AP 63 (AP 35 s).1).1=d at *;refine(ABn (X:=fun k=>Q4 d (some (AKA,6)) k) fun k=>AKp eT _ k).trans ?_;unfold Q4;cases hcol:Ub d with
 | none=>dsimp only;refine(Bo (a:=Jn d) fun k=>AUv d eT k).trans ?_;rfl
 | some p=>
  obtain⟨a,r⟩:=p;dsimp only;cases UX a;·rfl
  ·have hr:r.length≤d.length:=by
    unfold Ub at hcol;split at hcol;·cases hcol;have:=a7 List.length (NF d);simp only[aj]at this;rw[aw];omega
    ·cases hcol
   rw[ah rfl,ah rfl];refine(Bo (a:=Jn r) fun k=>AUv r eT k).trans ?_;rfl
end
end Go.VM
namespace Go.VM
section
variable{N:Nat}
theorem VT (k4:Unit→Option Bool): ∀ps:List (List UInt8),(∀p,p∈ps→p.length≤2^60)→EA N k4 ps=if(ps.all fun p=>(Ee 255 p).2==0)=true then k4 ()else some false |[],_=>by rw[EA];rfl| p::ps,h=>by rw[EA,show(255:Int)=((255:Nat):Int)from rfl,TY eV p (h p eU),aa,VT k4 ps fun q hq=>h q (by simp[hq]),aG];cases hx:((Ee 255 p).2==0)<;>simp[bne,hx]
theorem AS1 (l:List UInt8) (hb:l.length≤1000000):KG N l=some (AGM l):=by
 have hl:=Ih 46 l;have hp:=Fp 46 l;unfold KG;rw[ALW l 46 hb,aa];dsimp only[AB];rw[BR eT,VT _ _ fun p h=>by have:=hp p h;omega];unfold AGM;have e:(((Al 46 l).length:Int) !=4)=!decide ((Al 46 l).length=4):=by
  by_cases h:(Al 46 l).length=4;·rw[aF h,h];rfl
  ·rw[aO h];simp;omega
 rw[e];cases decide ((Al 46 l).length=4)<;>cases ((Al 46 l).all fun p=>(Ee 255 p).2==0)<;>simp
theorem AMb (l:List UInt8) (hN:300≤N):MG N l=some (MQ l):=by
 unfold MG MQ;by_cases h:l=[];·subst h;rfl
 rw[ag (by simpa using h),ag h];by_cases h2:l.length>253;·rw[ah (by simp only[al];omega),ah h2]
 rw[ag (by simp only[al];omega),ag h2];dsimp only[AB];rw[AS1 l eT,aa,AMM l eT eT,aa,lower_eq l eT,aa];cases AGM l<;>cases OX l<;>rfl
theorem AXJ (l:List UInt8) (hN:300≤N) (hb:l.length≤1000000):Ky N l=some (hpS l):=by
 have hle:=FE 58 l;unfold Ky hpS;rw[Kv 58 l eT,aa,AMb _ hN,aa];dsimp only[AB];rw[APs _ eT,aa];by_cases h:((MQ (AP 58 l).1).2 !=0)=true;·rw[ah h,ah h]
 ·rw [ag h,ag h];cases (AP 58 l).2.2;·rfl
  ·simp only[aE];by_cases hp:((M3 (AP 58 l).2.1).2 !=0)=true;·rw[ah hp,ah hp]
   ·rw[ag hp,ag hp];split<;>rfl
def Oy (p:Int):Prop:=0≤p∧p≤65535
theorem APm (l:List UInt8):Oy (M3 l).1:=by have:=NZ 65535 l;unfold M3 Oy;split<;>simp<;>omega
theorem AFA (l:List UInt8):Oy (hpS l).1.port:=by
 have:=APm (AP 58 l).2.1;unfold hpS Oy at *;split;·simp
 split
 ·split;·simp
  ·simp only;split<;>omega
 ·simp
theorem AKc (l:List UInt8):(MQ l).1.length≤253:=by
 unfold MQ;split;·simp
 split;·simp
 split;·simp;omega
 ·simp
theorem YG (l:List UInt8):(hpS l).1.host.length≤253:=by
 have:=AKc (AP 58 l).1;unfold hpS;split;·simp
 split;·split<;>simp<;>omega
 ·simpa using this
def hpF (h:List UInt8) (p:Int):List UInt8:=if p=0 then h else h++[58]++fmtS p.toNat
theorem AHM (h:List UInt8) (p:Int):(hpF h p).length≤h.length+21:=by have:=T9 p.toNat;unfold hpF;split<;>simp<;>omega
theorem AS9 (h:List UInt8) (p:Int) (hp:Oy p) (hb:h.length≤1000000) (hN:20≤N):KD N ⟨h,p⟩=some (hpF h p):=by
 have hl:=T9 p.toNat;obtain⟨h1,h2⟩:=hp;unfold KD hpF;by_cases h0:p=0;·rw[ah (by simpa using h0),ah h0]
 ·rw[ag (by simpa using h0),ag h0,ag eW];have e:wr .u64 p=((p.toNat:Nat):Int):=by rw[JI eT];omega
  simp only[e];rw[AFM p.toNat eT hN,aa,BR eW,BR eW]
theorem ATx (h:List UInt8) (p:Int) (hp:Oy p) (hb:h.length≤1000000) (hN:20≤N):JY N ⟨h,p⟩=some (hpF h p):=by
 have hl:=T9 p.toNat;obtain⟨h1,h2⟩:=hp;unfold JY Jz hpF;by_cases h0:p=0;·rw[ah (by simpa using h0),ah h0]
 ·rw[ag (by simpa using h0),ag h0];have e:wr .u64 p=((p.toNat:Nat):Int):=by rw[JI eT];omega
  simp only[e];rw[ag eW,AGI p.toNat eT hN,aa,aa,BR eW,BR eW]
end
end Go.VM
namespace Go.VM
section
variable{N:Nat}
theorem AAv (c:UInt8) (l:List UInt8):strings_Contains N l [c]=some (l.contains c):=by unfold strings_Contains;rw[Zt,aa,G9]
theorem AWA{c:UInt8}{l:List UInt8} (hb:l.length≤1000000):decide ((((l.takeWhile fun x=>!([c]:List UInt8).contains x).length:Nat):Int)<(l.length:Int))=l.contains c:=by
 have hw:(fun x:UInt8=>!([c]:List UInt8).contains x)=(fun x=>x !=c):=by funext x;simp[bne];rfl
 rw[hw];cases h:l.contains c;·rw[LD l h];simp
 ·have:=Je h;simp;omega
theorem Y2 (also:List UInt8): ∀(k:Nat) (t out:List UInt8),(NL also k t out).1.length≤out.length+t.length
 |0,t,out=>by simp[NL]
 |k+1,[],out=>by simp[NL]
 | k+1,c::t,out=>by
  rw[NL];split
  ·cases h:JK t with
   |none=>simp
   | some x=>
    have h2:=Nv h;have:=Y2 also k (t.drop 2) (out++(if Gp x=true then [x]else Lr x));simp only[aj,aw,ae]at *;have:(if Gp x=true then [x]else Lr x).length≤3:=by split<;>simp[Lr]
    omega
  ·split;·have:=Y2 also k t (out++[c]);simp only[aj,ae,an]at *;omega
   ·simp
theorem F7 (s also:List UInt8):(Bj N s also).1.length≤s.length:=by
 unfold Bj;split;·simp
 ·have:=Y2 also N s [];simpa using this
def Pq (u:ApiURL):List UInt8:=if u.hasQuery=true then u.path++[63]++u.query else u.path
def Jj (u:ApiURL):List UInt8:=if u.hasFrag=true then([104,116,116,112,115,58,47,47]++hpF u.host u.port)++Pq u++([35]++u.fragment)else([104,116,116,112,115,58,47,47]++hpF u.host u.port)++Pq u
theorem APk (u:ApiURL) (h:u.path.length≤1000000∧u.query.length≤1000000):IK N u=some (Pq u):=by
 unfold IK Pq;cases u.hasQuery;·rfl
 ·rw[ah rfl,ah rfl,BR eW,BR eW]
theorem API (u:ApiURL) (h:u.path.length≤1000000∧u.query.length≤1000000):JJ N u=some (Pq u):=by
 unfold JJ Pq;cases u.hasQuery;·rfl
 ·rw[ah rfl,ah rfl,BR eW,BR eW]
theorem AB0 (u:ApiURL):(Pq u).length≤u.path.length+u.query.length+1:=by
 unfold Pq;split;·simp only[aj,ae,an];omega
 ·omega
def OO (u:ApiURL):Prop:=Oy u.port∧u.host.length≤1000000∧u.path.length≤1000000∧u.query.length≤1000000∧u.fragment.length≤1000000
theorem Py (u:ApiURL) (h:OO u) (hN:20≤N):D9 N u=some (Jj u):=by
 obtain⟨h1,h2,h3,h4,h5⟩:=h;have hh:=AHM u.host u.port;have ht:=AB0 u;unfold D9 J2 Jj;rw[aa,AS9 _ _ h1 h2 hN,aa,BR eW,APk u ⟨h3,h4⟩,aa,BR eW];dsimp only[AB];cases u.hasFrag;·rfl
 ·rw[ah rfl,ah rfl,BR eW,BR eW]
theorem QG (u:ApiURL) (h:OO u) (hN:20≤N):Eo N u=some (Jj u):=by
 obtain⟨h1,h2,h3,h4,h5⟩:=h;have hh:=AHM u.host u.port;have ht:=AB0 u;unfold Eo KW Jj;rw[aa,ATx _ _ h1 h2 hN,aa,BR eW,API u ⟨h3,h4⟩,aa,BR eW];dsimp only[AB];cases u.hasFrag;·rfl
 ·rw[ah rfl,ah rfl,BR eW,BR eW]
theorem APe (r:List UInt8):(Jn r).1.length≤r.length∧(Jn r).2.1.length≤r.length:=by
 unfold Jn;split;·have h1:=(df (fun x:UInt8=>x !=47) (l:=r.drop 2)).length_le;have h2:=Kq (· !=(47:UInt8)) (r.drop 2);rw[aw]at h1 h2;exact⟨by dsimp only;omega,by dsimp only;omega⟩
 ·simp
def inP:List UInt8:=[33,36,38,39,40,41,42,43,44,59,61,58,64,47]
def inQ:List UInt8:=[33,36,38,39,40,41,42,43,44,59,61,58,64,47,63]
def LK:ApiURL:=⟨[],0,[],[],[],false,false⟩
def Li (N:Nat) (p:List UInt8):List UInt8:=if G7 N p []=[]then [47]else G7 N p []
def AFI (N:Nat) (U:ApiURI):ApiURL×Int:=if U.hasAuthority=false then(LK,71) else if U.authority.contains 64=true then(LK,70) else if((hpS U.authority).2 !=0)=true then(LK,(hpS U.authority).2) else if((Bj N U.path inP).2 !=0)=true then(LK,(Bj N U.path inP).2) else if((Bj N U.query inQ).2 !=0)=true then(LK,(Bj N U.query inQ).2) else if((Bj N U.fragment inQ).2 !=0)=true then(LK,(Bj N U.fragment inQ).2) else if(Jj ⟨(hpS U.authority).1.host,(hpS U.authority).1.port,Li N (Bj N U.path inP).1,(Bj N U.query inQ).1,(Bj N U.fragment inQ).1,U.hasQuery,U.hasFrag⟩).length>4096 then(LK,5) else(⟨(hpS U.authority).1.host,(hpS U.authority).1.port,Li N (Bj N U.path inP).1,(Bj N U.query inQ).1,(Bj N U.fragment inQ).1,U.hasQuery,U.hasFrag⟩,0)
def ALn (N:Nat) (a b:List UInt8):ApiURL×Int:=if(a++58::b).length>4096 then(LK,5)else AFI N (AKU a b)
theorem UA (p:List UInt8):(Li N p).length≤p.length+1:=by
 have:=JZ N p [];simp only[an]at this;unfold Li;split;·simp
 ·omega
theorem AM1{a:List UInt8} (h:L6 a):(a.map E5==List.map E5 [104,116,116,112,115])=true:=by rw[h];decide
def MR (N:Nat) (s:List UInt8):ApiURL×Int:=if s.length>4096 then(LK,5) else if((Ij s).2 !=0)=true then(LK,(Ij s).2) else if(!((Ij s).1.hasScheme&&((Ij s).1.scheme.map E5==List.map E5 [104,116,116,112,115])))=true then(LK,60) else AFI N (Ij s).1
theorem ASW{d a r:List UInt8} (h:Ub d=some (a,r)):a.length≤d.length∧r.length≤d.length:=by
 unfold Ub at h;split at h;·cases h;have:=a7 List.length (NF d);simp only[aj]at this;rw[aw];omega
 ·cases h
theorem Ld (s:List UInt8):(Ij s).1.authority.length≤s.length∧(Ij s).1.path.length≤s.length∧(Ij s).1.query.length≤s.length∧(Ij s).1.fragment.length≤s.length∧(Ij s).1.scheme.length≤s.length:=by
 have hc1:=FE 35 s;have hc2:=FE 63 (AP 35 s).1;unfold Ij;split;·simp[AKA]
 generalize hd:(AP 63 (AP 35 s).1).1=d at *;have key: ∀a h r,r.length≤d.length→a.length≤s.length→(usT s a h r).authority.length≤s.length∧(usT s a h r).path.length≤s.length∧(usT s a h r).query.length≤s.length∧(usT s a h r).fragment.length≤s.length∧(usT s a h r).scheme.length≤s.length:=fun a h r hr ha=>by have:=APe r;unfold usT;dsimp only;omega
 split;·exact key _ _ _ (ao _) (bk _)
 ·rename_i a r hc;have:=ASW hc;split;·exact key _ _ _ this.2 eT
  ·simp[AKA]
theorem TB (s:List UInt8) (hb:s.length≤1000000) (hN:20000≤N):Ff N s=some (MR N s):=by
 unfold Ff MR;by_cases hl:s.length>4096;·rw[ah (by simp only[al];omega),ah hl];rfl
 rw[ag (by simp only[al];omega),ag hl,Mq s hb eT,aa];obtain⟨l1,l2,l3,l4,l5⟩:=Ld s;generalize Ij s=X at *;obtain⟨U,e⟩:=X;dsimp only[AB]at *;by_cases he:(e !=0)=true;·rw[ah he,ah he];rfl
 rw[ag he,ag he];cases hS:U.hasScheme;·rfl
 rw[ah rfl,Vb _ _ eT eV,aa];cases hE:(U.scheme.map E5==List.map E5 [104,116,116,112,115]);·rfl
 simp only[bI,cV,av,aR];unfold AFI;cases hA:U.hasAuthority;·rfl
 rw[ah rfl,ag eV];rw[AAv,aa];cases hat:U.authority.contains 64;rotate_left;·rfl
 rw[ag eV,ag eV,AXJ _ eT eT,aa];have q1:=AFA U.authority;have q2:=YG U.authority;generalize hpS U.authority=H at *;by_cases e1:(H.2 !=0)=true;·rw[ah e1,ah e1];rfl
 rw[ag e1,ag e1];have n1:=F7 (N:=N) U.path inP;have n2:=F7 (N:=N) U.query inQ;have n3:=F7 (N:=N) U.fragment inQ;rw[Fu U.path _ hN,aa];change (if((Bj N U.path inP).2 !=0)=true then _ else _)=_;by_cases e2:((Bj N U.path inP).2 !=0)=true;·rw[ah e2,ah e2];rfl
 rw[ag e2,ag e2,Fu U.query _ hN,aa];change (if((Bj N U.query inQ).2 !=0)=true then _ else _)=_;by_cases e3:((Bj N U.query inQ).2 !=0)=true;·rw[ah e3,ah e3];rfl
 rw[ag e3,ag e3,Fu U.fragment _ hN,aa];change (if((Bj N U.fragment inQ).2 !=0)=true then _ else _)=_;by_cases e4:((Bj N U.fragment inQ).2 !=0)=true;·rw[ah e4,ah e4];rfl
 rw[ag e4,ag e4];change Option.bind (Dh N (Bj N U.path inP).1) _=_;rw[SE _ hN eT,aa];have pl:=UA (N:=N) (Bj N U.path inP).1;have hp:Li N (Bj N U.path inP).1=if(G7 N (Bj N U.path inP).1 []==[])=true then [47]else G7 N (Bj N U.path inP).1 []:=by unfold Li;split<;>simp_all
 have fin: ∀P:List UInt8,P=Li N (Bj N U.path inP).1→(Option.bind (D9 N (ApiURL.mk H.1.host H.1.port P (Bj N U.query inQ).1 (Bj N U.fragment inQ).1 U.hasQuery U.hasFrag)) fun y25=>if(decide ((y25.length:Int)>4096))=true then (some ((ApiURL.mk [] 0 [] [] [] false false),5):Option (ApiURL×Int)) else some ((ApiURL.mk H.1.host H.1.port P (Bj N U.query inQ).1 (Bj N U.fragment inQ).1 U.hasQuery U.hasFrag),0))=some (if(Jj ⟨H.1.host,H.1.port,Li N (Bj N U.path inP).1,(Bj N U.query inQ).1,(Bj N U.fragment inQ).1,U.hasQuery,U.hasFrag⟩).length>4096 then(LK,5) else(⟨H.1.host,H.1.port,Li N (Bj N U.path inP).1,(Bj N U.query inQ).1,(Bj N U.fragment inQ).1,U.hasQuery,U.hasFrag⟩,0)):=by
  intro P hP;subst hP;rw[Py _ ⟨q1,by dsimp only;omega,by dsimp only;omega,by dsimp only;omega,by dsimp only;omega⟩ eT,aa];split;·rename_i AO;rw[ah (by simp only[al]at AO;omega)];rfl
  ·rename_i AO;rw[ag (by simp only[al]at AO;omega)]
 by_cases e5:(G7 N (Bj N U.path inP).1 []==[])=true;·rw[ah e5]at hp⊢;exact fin _ hp.symm
 ·rw[ag e5]at hp⊢;exact fin _ hp.symm
theorem S9 (s:List UInt8) (hb:s.length≤1000000) (hN:20000≤N):GD N s=some (MR N s):=by
 unfold GD MR;by_cases hl:s.length>4096;·rw[ah (by simp only[al];omega),ah hl];rfl
 rw[ag (by simp only[al];omega),ag hl,Oi s hb,aa];obtain⟨l1,l2,l3,l4,l5⟩:=Ld s;generalize Ij s=X at *;obtain⟨U,e⟩:=X;dsimp only[AB]at *;by_cases he:(e !=0)=true;·rw[ah he,ah he];rfl
 rw[ag he,ag he];cases hS:U.hasScheme;·rfl
 rw[ah rfl,VJ _ _ eT eV,aa];cases hE:(U.scheme.map E5==List.map E5 [104,116,116,112,115]);·rfl
 simp only[bI,cV,av,aR];unfold AFI;cases hA:U.hasAuthority;·rfl
 rw[ah rfl,ag eV];rw[I4 _ [64] eV eT,aa,AWA eT];cases hat:U.authority.contains 64;rotate_left;·rfl
 rw[ag eV,ag eV,AWZ _ eT,aa];have q1:=AFA U.authority;have q2:=YG U.authority;generalize hpS U.authority=H at *;by_cases e1:(H.2 !=0)=true;·rw[ah e1,ah e1];rfl
 rw[ag e1,ag e1];have n1:=F7 (N:=N) U.path inP;have n2:=F7 (N:=N) U.query inQ;have n3:=F7 (N:=N) U.fragment inQ;rw[Gg U.path _ hN eV,aa];change (if((Bj N U.path inP).2 !=0)=true then _ else _)=_;by_cases e2:((Bj N U.path inP).2 !=0)=true;·rw[ah e2,ah e2];rfl
 rw[ag e2,ag e2,Gg U.query _ hN eV,aa];change (if((Bj N U.query inQ).2 !=0)=true then _ else _)=_;by_cases e3:((Bj N U.query inQ).2 !=0)=true;·rw[ah e3,ah e3];rfl
 rw[ag e3,ag e3,Gg U.fragment _ hN eV,aa];change (if((Bj N U.fragment inQ).2 !=0)=true then _ else _)=_;by_cases e4:((Bj N U.fragment inQ).2 !=0)=true;·rw[ah e4,ah e4];rfl
 rw[ag e4,ag e4];change Option.bind (Cf N (Bj N U.path inP).1) _=_;rw[QM _ hN eT,aa];have pl:=UA (N:=N) (Bj N U.path inP).1;have hp:Li N (Bj N U.path inP).1=if(G7 N (Bj N U.path inP).1 []==[])=true then [47]else G7 N (Bj N U.path inP).1 []:=by unfold Li;split<;>simp_all
 have fin: ∀P:List UInt8,P=Li N (Bj N U.path inP).1→(Option.bind (Eo N (ApiURL.mk H.1.host H.1.port P (Bj N U.query inQ).1 (Bj N U.fragment inQ).1 U.hasQuery U.hasFrag)) fun y25=>if(decide ((y25.length:Int)>4096))=true then (some ((ApiURL.mk [] 0 [] [] [] false false),5):Option (ApiURL×Int)) else some ((ApiURL.mk H.1.host H.1.port P (Bj N U.query inQ).1 (Bj N U.fragment inQ).1 U.hasQuery U.hasFrag),0))=some (if(Jj ⟨H.1.host,H.1.port,Li N (Bj N U.path inP).1,(Bj N U.query inQ).1,(Bj N U.fragment inQ).1,U.hasQuery,U.hasFrag⟩).length>4096 then(LK,5) else(⟨H.1.host,H.1.port,Li N (Bj N U.path inP).1,(Bj N U.query inQ).1,(Bj N U.fragment inQ).1,U.hasQuery,U.hasFrag⟩,0)):=by
  intro P hP;subst hP;rw[QG _ ⟨q1,by dsimp only;omega,by dsimp only;omega,by dsimp only;omega,by dsimp only;omega⟩ eT,aa];split;·rename_i AO;rw[ah (by simp only[al]at AO;omega)];rfl
  ·rename_i AO;rw[ag (by simp only[al]at AO;omega)]
 by_cases e5:(G7 N (Bj N U.path inP).1 []==[])=true;·rw[ah e5]at hp⊢;exact fin _ hp.symm
 ·rw[ag e5]at hp⊢;exact fin _ hp.symm
theorem AHp{a b:List UInt8} (h:L6 a) (hb:(a++58::b).length≤1000000) (hN:20000≤N):MR N (a++58::b)=ALn N a b:=by
 unfold MR ALn;by_cases hl:(a++58::b).length>4096;·rw[ah hl,ah hl]
 rw[ag hl,ag hl];have e:Ij (a++58::b)=(AKU a b,0):=aQ ((Mq (N:=N) _ hb eT).symm.trans (ASS h eT hN));rw[e,ag (show¬(((0:Int) !=0)=true) by decide),show(AKU a b).hasScheme=true from rfl,show(AKU a b).scheme=a from rfl,AM1 h];rfl
theorem ATA{a b:List UInt8} (h:L6 a) (hb:(a++58::b).length≤1000000) (hN:20000≤N):Ff N (a++58::b)=some (ALn N a b):=by rw[TB _ hb hN,AHp h hb hN]
theorem AUZ{a b:List UInt8} (h:L6 a) (hb:(a++58::b).length≤1000000) (hN:20000≤N):GD N (a++58::b)=some (ALn N a b):=by rw[S9 _ hb hN,AHp h hb hN]
end
end Go.VM
namespace Go.VM
section
variable{N:Nat}
theorem Lg{n b:Nat} (h:n≤1000000) (hb:b≤1000):CW n b:=by unfold CW;have:n * b≤1000000 * 1000:=Nat.mul_le_mul h hb;omega
theorem AYQ (c:UInt8) (l:List UInt8) (hb:l.length≤1000000):Aw N l [c]=some (((l.takeWhile (· !=c)).length:Nat):Int):=by
 have hw:(fun x:UInt8=>!([c]:List UInt8).contains x)=(fun x=>x !=c):=by funext x;simp[bne];rfl
 rw[I4 l [c] eU eT,hw]
theorem AMZ{c:UInt8}{l:List UInt8}:((((l.takeWhile (· !=c)).length:Nat):Int)==(l.length:Int))=!l.contains c:=by
 cases h:l.contains c;·rw[LD l h];simp
 ·have:=Je h;simp;omega
theorem Sd{c:UInt8}{l:List UInt8} (h:l.contains c=true) (hb:l.length≤1000000):sub l 0 (((l.takeWhile (· !=c)).length:Nat):Int)=some (AP c l).1∧sub l (wr .i64 ((((l.takeWhile (· !=c)).length:Nat):Int)+1)) (l.length:Int)=some (AP c l).2.1:=by
 have hlt:=Je h;obtain⟨s1,s2⟩:=Zj h hb;rw[IB,ah h]at s1 s2;have w0:wr .i64 (((l.takeWhile (· !=c)).length:Int)+0)=((l.takeWhile (· !=c)).length:Int):=by rw[AQ eT];omega
 rw[w0]at s1;exact⟨s1,s2⟩
theorem AIP{c:UInt8}{l:List UInt8}:(AP c l).2.2=l.contains c:=by
 cases h:l.contains c;·rw[Lf h]
 ·rw[FT h]
end
end Go.VM
namespace Go.VM
section
variable{N:Nat}
theorem Xu: ∀(k:Nat) (t out:List UInt8),(Nb k t out).1.length≤out.length+t.length
 |0,t,out=>by simp[Nb]
 |k+1,[],out=>by simp[Nb]
 | k+1,c::t,out=>by
  rw[Nb];split;·cases h:JK t with |none=>simp| some x=>have h2:=Nv h;have:=Xu k (t.drop 2) (out++[x]);simp only[aj,aw,ae,an]at *;omega
  ·have:=Xu k t (out++[c]);simp only[aj,ae,an]at *;omega
theorem Sq (s:List UInt8):(ES N s).1.length≤s.length:=by
 unfold ES;split;·simp
 ·have:=Xu N s [];simpa using this
end
end Go.VM
