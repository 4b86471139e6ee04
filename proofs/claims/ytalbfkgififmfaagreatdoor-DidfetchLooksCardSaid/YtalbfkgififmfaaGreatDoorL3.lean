import Derived.Test.YtalbfkgififmfaaGreatDoorL2
set_option linter.defProp false
set_option linter.unusedVariables false
set_option linter.unusedSimpArgs false
namespace Go.VM
section
variable{N:Nat}
def Dc (p:B8):B8->Option Nat|[]=>if p=[]then some 0 else none|x::l=>if p.isPrefixOf (x::l)=true then some 0 else(Dc p l).map (· +1)
def QO{p:B8}: ∀ {l:B8}{k:Nat},Dc p l=some k->k+p.length<=l.length/\(l.drop k).take p.length=p
 |[],k,h=>by
  unfold Dc at h;split at h;·rename_i e;cases h;subst e;simp
  ·cases h
 |x::l,k,h=>by
  unfold Dc at h;split at h;·rename_i e;cases h;obtain⟨t,ht⟩:=dw.1 e;rw[<-ht];simp
  ·cases hf:Dc p l with|none=>rw[hf]at h;cases h|some i=>rw[hf]at h;cases h;obtain⟨h1,h2⟩:=QO hf;exact⟨by simp only[ae];omega,by simpa using h2⟩
def Aok{p:B8} (l:B8): ∀ {i:Nat},i<l.length->Dc p (l.drop i)=if p.isPrefixOf (l.drop i)=true then some 0 else(Dc p (l.drop (i+1))).map (· +1):=by intro i hi;rw[bQ hi];rfl
def VY{p:B8}: ∀ {l:B8},l.length<p.length->Dc p l=none
 |[],h=>by unfold Dc;rw[aj (by intro e;subst e;simp at h)]
 |x::l,h=>by
  unfold Dc;rw[aj,VY (by simp only[ae]at h;omega)];·rfl
  ·intro e;have:=(dw.1 e).length_le;omega
def TE (p l:B8):Int:=match Dc p l with|some k=>(k:Int)|none=> -1
def YC (p:B8): ∀l:B8,Go.Lib.index l p=TE p l
 |[]=>by unfold TE Dc Go.Lib.index;cases p<;>rfl
 |x::l=>by
  unfold Go.Lib.index;rw[YC p l];unfold TE;rw[show Dc p (x::l)=if p.isPrefixOf (x::l)=true then some 0 else(Dc p l).map (· +1)from rfl];by_cases h:p.isPrefixOf (x::l)=true;·rw[an h,an h];rfl
  ·rw[aj h,aj h];cases Dc p l with|none=>rfl|some k=>simp only[aP];rw[aj (by grind)];omega
def Au5{p l:B8} (hp:2<=p.length) (hb:l.length<=1000000000):strings_Index N l p=some (TE p l):=by unfold strings_Index BH;rw[aj fP,AP fM,aa,YC]
def AGf{p l:B8} (hp:1<=p.length) (hb:l.length+p.length<=1000000000) (k2:Unit->Option Int): ∀(m i k:Nat),l.length-i=m->i<=l.length->l.length-i<k->J2 N l p k2 k (i:Int)=match Dc p (l.drop i)with|some j=>some (((i+j:Nat):Int))|none=>k2 ()
 | m,i,k+1,hm,hi,hk=>by
  have w1:wr .i64 ((i:Int)+(p.length:Int))=((i+p.length:Nat):Int):=Ak fM;have w2:wr .i64 ((i:Int)+1)=((i+1:Nat):Int):=Ak fM;rw[J2,w1];by_cases h:i+p.length<=l.length
  ·rw[an fP,Av l i (i+p.length) fM h,aa,show i+p.length-i=p.length by omega];have hi2:i<l.length:=fM;rw[Aok l hi2];have e:((l.drop i).take p.length==p)=p.isPrefixOf (l.drop i):=by rw[Bool.eq_iff_iff,be,dw];exact⟨λh=>by rw[<-h];exact List.take_prefix _ _,λh=>(fb.1 h).symm⟩
   rw[e];by_cases h2:p.isPrefixOf (l.drop i)=true;·rw[an h2,an h2];simp
   ·rw[aj h2,aj h2,w2];cases m with|zero=>omega|succ m=>rw[AGf hp hb k2 m (i+1) k fM fM fM];cases Dc p (l.drop (i+1))with|none=>rfl|some j=>simp only[aP];congr 2;omega
  ·rw[aj fP,VY (by rw[aG];omega)]
def VR{p l:B8} (hp:1<=p.length) (hb:l.length+p.length<=1000000000) (hN:l.length<N):Hz N l p=some (TE p l):=by unfold Hz;rw[AB];have:=AGf (N:=N) hp hb (λ_=>some (-1)) l.length 0 N fM fM fM;rw[show((0:Nat):Int)=0 from rfl]at this;rw[this,aN];unfold TE;cases Dc p l with|none=>rfl|some j=>simp
def Bj:B8:=[13,10]
def J3 (l:B8):B8×B8×Bool:=match Dc Bj l with|some k=>(l.take k,l.drop (k+2),true)|none=>(l,[],false)
def At8{l:B8} (hb:l.length<=1000000000):strings_Cut N l [13,10]=some (J3 l):=by
 unfold strings_Cut Es;have hi:BH N l [13,10]=some (TE Bj l):=by unfold BH;rw[aj fO,AP fM,YC];rfl
 rw[hi,aa];unfold TE J3;cases h:Dc Bj l with|none=>rw[aj fN];rfl|some k=>have h1:=(QO h).1;simp only[Bj,ae,aq]at h1;have w:wr .i64 ((k:Int)+(([13,10]:B8).length:Int))=((k+2:Nat):Int):=Ak (by simp only[ae,aq];omega);rw[an fN,show(0:Int)=((0:Nat):Int)from rfl,Av l 0 k fM fM,aa,w,BP fM,aa,aa];simp
def AS3: ∀l:B8,Dc Bj (l++Bj)=some ((Dc Bj l).getD l.length)
 |[]=>rfl
 |[x]=>by
  show(if Bj.isPrefixOf [x,13,10]=true then some 0 else(Dc Bj [13,10]).map (· +1))=_;have h:Bj.isPrefixOf [x,13,10]=false:=by simp[Bj,List.isPrefixOf]
  rw[h];have h2:Dc Bj [x]=none:=VY (by simp[Bj]);rw[h2];rfl
 |x::y::l=>by
  have ih:=AS3 (y::l);have e:Bj.isPrefixOf (x::y::l++Bj)=Bj.isPrefixOf (x::y::l):=by simp[Bj,List.isPrefixOf]
  rw[show Dc Bj (x::y::l++Bj)=if Bj.isPrefixOf (x::y::l++Bj)=true then some 0 else(Dc Bj (y::l++Bj)).map (· +1)from rfl,e,ih,show Dc Bj (x::y::l)=if Bj.isPrefixOf (x::y::l)=true then some 0 else(Dc Bj (y::l)).map (· +1)from rfl];by_cases h:Bj.isPrefixOf (x::y::l)=true;·rw[an h,an h];rfl
  ·rw[aj h,aj h];cases Dc Bj (y::l)<;>rfl
def AIH: ∀(l:B8) (n:Nat),n<=YD n l|[],n=>av _|c::l,n=>by have:=AIH l (n * 16+Gt c.toNat);rw[YD];omega
def Zk (m:Nat) (l:B8):Int×Int:=if l=[]then(0,3)else if l.all J5=true then(if YD 0 l<=m then(((YD 0 l:Nat):Int),0)else(0,4))else(0,1)
def Aos{m:Nat} (hm:m<=18446744073709551615) (k9:Int->Option (Int×Int)): ∀(l:B8) (n:Nat),l.all J5=true->n<=m->Be N 16 (m:Int) k9 l (n:Int)=if YD n l<=m then k9 ((YD n l:Nat):Int)else some (0,4)
 |[],n,_,hn=>by rw[Be,YD,an hn]
 |c::l,n,h,hn=>by
  simp only[aQ,aw]at h;have hd:=WW c h.1;have hge:=AIH l (n * 16+Gt c.toNat);rw[Be,Acx c h.1,aa,AB,AP fO];have w3:wr .u64 (18446744073709551615-((Gt c.toNat:Nat):Int))=18446744073709551615-((Gt c.toNat:Nat):Int):=Fw fM;rw[w3,bF fM,Fw (n:=(18446744073709551615-((Gt c.toNat:Nat):Int)) / 16) fM,YD];by_cases c1:(n:Int)>(18446744073709551615-((Gt c.toNat:Nat):Int)) / 16;·rw[an (aC c1),aj fM];rfl
  have w1:wr .u64 ((n:Int) * 16)=((n * 16:Nat):Int):=by rw[Fw fM];omega
  have w2:wr .u64 (((n * 16:Nat):Int)+((Gt c.toNat:Nat):Int))=((n * 16+Gt c.toNat:Nat):Int):=by rw[Fw fM];omega
  rw[aj (by simp only[au];exact c1),w1,w2];by_cases c2:n * 16+Gt c.toNat<=m;·have c3: ¬(((n * 16+Gt c.toNat:Nat):Int)>(m:Int)):=fM;rw[aF c3];simp only[ap,aA];exact Aos hm k9 l _ h.2 c2
  ·have c3:(((n * 16+Gt c.toNat:Nat):Int)>(m:Int)):=fM;rw[aC c3,aj fM];rfl
def Aod{m:Nat} (hm:m<=18446744073709551615) (hm9:15<=m) (k9:Int->Option (Int×Int)): ∀(l:B8) (n:Nat),l.all J5=true->n<=m->Cq N 16 (m:Int) k9 l (n:Int)=if YD n l<=m then k9 ((YD n l:Nat):Int)else some (0,4)
 |[],n,_,hn=>by rw[Cq,YD,an hn]
 | c::l,n,h,hn=>by
  simp only[aQ,aw]at h;have hd:=WW c h.1;have hge:=AIH l (n * 16+Gt c.toNat);rw[Cq];simp only[AB];have hv:=Avq c h.1;have key: ∀v:Int,v=((Gt c.toNat:Nat):Int)->(grd ((16:Int)≠0) (if decide ((n:Int)>wr .u64 ((m:Int).tdiv 16))=true then if true=true then(some (0,4):Option (Int×Int))else Cq N 16 (m:Int) k9 l (wr .u64 (wr .u64 ((n:Int) * 16)+v))else if decide (wr .u64 ((n:Int) * 16)>wr .u64 ((m:Int)-v))=true then if true=true then some (0,4)else Cq N 16 (m:Int) k9 l (wr .u64 (wr .u64 ((n:Int) * 16)+v))else if decide (v>(m:Int))=true then some (0,4)else Cq N 16 (m:Int) k9 l (wr .u64 (wr .u64 ((n:Int) * 16)+v))))=if YD (n * 16+Gt c.toNat) l<=m then k9 ((YD (n * 16+Gt c.toNat) l:Nat):Int)else some (0,4):=by
   rintro v rfl;rw[AP fO,bF fM,Fw (n:=(m:Int) / 16) fM,Fw (n:=(m:Int)-((Gt c.toNat:Nat):Int)) fM];by_cases c1:(n:Int)>(m:Int) / 16;·rw[an (aC c1),an rfl,aj fM]
   have w1:wr .u64 ((n:Int) * 16)=((n * 16:Nat):Int):=by rw[Fw fM];omega
   rw[aj (by simp only[au];exact c1),w1];by_cases c2:((n * 16:Nat):Int)>(m:Int)-((Gt c.toNat:Nat):Int);·rw[an (aC c2),an rfl,aj fM]
   have w2:wr .u64 (((n * 16:Nat):Int)+((Gt c.toNat:Nat):Int))=((n * 16+Gt c.toNat:Nat):Int):=by rw[Fw fM];omega
   rw[aj (by simp only[au];exact c2),aj (by simp only[au];omega),w2];exact Aod hm hm9 k9 l _ h.2 fM
  rw[YD];by_cases hc:AJ c>57;·simp only[hc,fy,az]at hv⊢;exact key _ hv
  ·simp only[hc,eF,ap,aA]at hv⊢;exact key _ hv
def AlG{m:Nat} (hm:m<=18446744073709551615) (l:B8) (hb:l.length<=2^60):P9 N l (m:Int)=some (Zk m l):=by
 unfold P9 Gb Zk;by_cases h:l=[];·subst h;rfl
 ·rw[aj (by simpa using h),aj h];simp only[AB];rw[Ap fM,Ap fM,AxY];by_cases h1:l.all J5=true;·rw[an h1,an h1,show(0:Int)=((0:Nat):Int)from rfl,Aos hm _ l 0 h1 fM];split<;>rfl
  ·rw[aj h1,aj h1];rfl
def Apr{m:Nat} (hm:m<=18446744073709551615) (hm9:15<=m) (l:B8) (hb:l.length<=2^60):Rh N l (m:Int)=some (Zk m l):=by
 unfold Rh Kl Zk;by_cases h:l=[];·subst h;rfl
 ·rw[aj (by simpa using h),aj h];simp only[AB];rw[Ap fM,Ap fM,Axa];by_cases h1:l.all J5=true;·rw[an h1,an h1,show(0:Int)=((0:Nat):Int)from rfl,Aod hm hm9 _ l 0 h1 fM];split<;>rfl
  ·rw[aj h1,aj h1];rfl
def AF6 (l:B8) (hb:l.length<=2^60) (k2:List Int->Option B8): ∀(t pre:B8),l=pre++t->G6 N l k2 t (pre.length:Int) (List.map AJ (pre.map DL)++List.map AJ t)=k2 (List.map AJ (l.map DL))
 |[],pre,h=>by grind[G6]
 | c::t,pre,h=>by
  have hlen:pre.length<l.length:=by grind
  have hc:=c.toNat_lt;have next:=AF6 l hb k2 t (pre++[c]) (by grind);rw[<-AlE]at next;have hi:idx (List.map AJ (pre.map DL)++List.map AJ (c::t)) (pre.length:Int)=some (AJ c):=by grind[Wu,List.map,AJ,DL]
  have hset:(List.map AJ (pre.map DL)++List.map AJ (c::t)).set pre.length (AJ (DL c))=List.map AJ ((pre++[c]).map DL)++List.map AJ t:=fN;rw[G6];dsimp only[AB];rw[AP fM,hi,aa];by_cases h1:65<=c.toNat/\c.toNat<=90
  ·have e:DL c=UInt8.ofNat (c.toNat+32):=by simp_all[DL,Apw]
   have e2:AJ (DL c)=wr .u8 (AJ c+32):=by grind[AWN,AJ,toNat_ofNat]
   rw[an (by have:=NS c;grind),an (by have:=NS c;grind),AP fM,aa,AP (by simp<;>omega),<-e2];simp_all
  ·have e:DL c=c:=by unfold DL Apw;rw[aj h1];simp
   have e3:List.map AJ ((pre++[c]).map DL)++List.map AJ t=List.map AJ (pre.map DL)++List.map AJ (c::t):=by grind
   rw[e3]at next;by_cases h2:65<=c.toNat;·rw[an (by have:=NS c;grind),aj (by have:=NS c;grind)];omega
   ·rw[aj (by have:=NS c;grind),aj fO];omega
def P8 (l:B8) (hb:l.length<=2^60):EE N l=some (l.map DL):=by unfold EE;rw[AB,AP (by grind[AL])];have:=AF6 (N:=N) l hb (λj1=>grd (l.length<=j1.length/\AL l.length) (some (List.map Fg (List.take l.length j1)))) l [] rfl;simp only[cw,bl,aq]at this;rw[show(0:Int)=((0:Nat):Int)from rfl,this,AP (by grind[AL]),bc fN,MJ]
def UC (a b:B8) (ha:a.length<=2^60) (hb:b.length<=2^60):Ip N a b=some (a.map DL==b.map DL):=by unfold Ip;rw[lower_eq a ha,aa,lower_eq b hb,aa]
def Tz (a b:B8) (ha:a.length<=2^60) (hb:b.length<=2^60):Ie N a b=some (a.map DL==b.map DL):=by unfold Ie;rw[P8 a ha,aa,P8 b hb,aa]
def Jy (l:B8):B8×Int:=if l=[]then([],3)else if l.length>253 then([],5)else if(ADI l||VV l)=true then(l.map DL,0)else([],50)
def ADb (l:B8):OC N l=some (Jy l):=by
 unfold OC Jy;by_cases h:l=[];·grind
 rw[aj (by grind),aj h];by_cases h2:l.length>253;·rw[an (by simp only[au];omega),an h2]
 rw[aj (by simp only[au];omega),aj h2];dsimp only[AB];rw[Ab9 l fM,aa,Al3 l fM,aa,P8 l fM,aa];cases ADI l<;>cases VV l<;>rfl
theorem VZ (m:Nat) (l:B8):0<=(Dw m l).1/\(Dw m l).1<=m:=by grind[Dw]
def U3 (l:B8):Int×Int:=if((Dw 65535 l).2 !=0||(Dw 65535 l).1==0)=true then(0,51)else((Dw 65535 l).1,0)
def Ant (l:B8) (hb:l.length<=2^60):Tk N l=some (U3 l):=by have:=VZ 65535 l;unfold Tk U3;rw[show(65535:Int)=((65535:Nat):Int)from rfl,YF fO l hb,aa];dsimp only[AB];rw[Ak fM];cases (Dw 65535 l).2 !=0<;>cases (Dw 65535 l).1==0<;>rfl
def Ao9 (l:B8) (hb:l.length<=2^60):Rn N l=some (U3 l):=by have:=VZ 65535 l;unfold Rn U3;rw[show(65535:Int)=((65535:Nat):Int)from rfl,ADW fO fO l hb,aa];dsimp only[AB];rw[Ak fM];cases (Dw 65535 l).2 !=0<;>cases (Dw 65535 l).1==0<;>rfl
def hpS (l:B8):Cl×Int:=if((Jy (Ac 58 l).1).2 !=0)=true then(⟨[],0⟩,(Jy (Ac 58 l).1).2)else if(Ac 58 l).2.2=true then(if((U3 (Ac 58 l).2.1).2 !=0)=true then(⟨[],0⟩,(U3 (Ac 58 l).2.1).2)else(⟨(Jy (Ac 58 l).1).1,if((U3 (Ac 58 l).2.1).1==443)=true then 0 else(U3 (Ac 58 l).2.1).1⟩,0))else(⟨(Jy (Ac 58 l).1).1,0⟩,0)
theorem Vl{c:UInt8}: ∀l:B8,l.contains c=false->l.takeWhile (· !=c)=l
 |[],_=>rfl
 |x::t,h=>by
  rw[bA,eg]at h;have e:(x !=c)=true:=by simp only[fj,eA];grind
  rw[bg,e,an rfl,Vl t h.2]
def AmA (l:B8) (hb:l.length<=1000000):Og N l=some (hpS l):=by
 have hw:(λc:UInt8=>!([58]:B8).contains c)=(λc=>c !=58):=by grind
 have hle:=UK (· !=(58:UInt8)) l;have h0:sub l 0 ((l.takeWhile (· !=(58:UInt8))).length:Int)=some (l.takeWhile (· !=(58:UInt8))):=by have:=Av l 0 _ (aM _) hle;rw[aN,bw,Ht]at this;omega
 unfold Og hpS;rw[OW l [58] fO fM,aa,hw,h0,aa,ADb,aa];unfold Ac;cases hc:l.contains 58
 ·have hall:l.takeWhile (· !=(58:UInt8))=l:=by grind[Vl]
  simp only[ap,aA];rw[hall];by_cases h:((Jy l).2 !=0)=true<;>simp_all[Jy]
 ·have hlt:=PE hc;have hd:l.drop ((l.takeWhile (· !=(58:UInt8))).length+1)=(l.dropWhile (· !=(58:UInt8))).drop 1:=by grind[List.drop_drop,List.takeWhile_append_dropWhile,List.drop_left]
  simp only[az];by_cases h:((Jy (l.takeWhile (· !=(58:UInt8)))).2 !=0)=true;·grind
  ·rw[aj h,aj h,aj (by grind)];rw[show wr .i64 (((l.takeWhile (· !=(58:UInt8))).length:Int)+1)=(((l.takeWhile (· !=(58:UInt8))).length+1:Nat):Int) by grind[Ak],Av l _ _ fM fM,aa,hd,bc (by have:=br List.length hd;grind),Ao9 _ (by grind[List.length_drop,List.dropWhile_sublist]),aa];dsimp only[AB];by_cases hp:((U3 ((l.dropWhile (· !=(58:UInt8))).drop 1)).2 !=0)=true;·simp_all
   ·rw[aj hp,aj hp];split<;>rfl
def AZI{out:B8}{bq:List Int} (h:List.take out.length bq=List.map AJ out):List.take (Lr out).length bq=List.map AJ (Lr out):=by
 have hle:=WQ out;have e:List.take (Lr out).length (List.take out.length bq)=List.take (Lr out).length bq:=by rw[fA,fo hle]
 rw[<-e,h];unfold Lr;split;·rename_i i hi;have:=ZP hi;rw[bb,fo fM,fG]
 ·simp
def Anr (out:B8) (v:Int) (hv:v=(match RI out out.length with|some i=>(i:Int)|none=> -1)):(if v>0 then v else 0).toNat=(Lr out).length/\0<=(if v>0 then v else 0)/\(if v>0 then v else 0)<=(out.length:Int):=by subst hv;unfold Lr;cases h:RI out out.length with|none=>simp|some i=>have:=ZP h;simp only[bb];split<;>omega
theorem M8 {M:Nat} (hM:M<=100000) (hN:M+100<=N): ∀(k:Nat) (s out:B8) (bq:List Int),s.length<k->s.length+out.length<=M->out.length<=bq.length->List.take out.length bq=List.map AJ out->Aw N k s out.length bq=some (Ll k s out)
 |0,s,out,bq,h,_,_,_=>by omega
 | k+1,s,out,bq,hk,hb,hl,ht=>by
  rw[Aw,Ll];have hchr:List.map Fg (List.take out.length bq)=out:=by rw[ht,MJ]
  have hso:=WQ out;by_cases h0:s=[];·rw[an (by grind),an h0,AP ⟨hl,by grind[AL]⟩,hchr]
  have hpos:0<s.length:=bS.2 h0;rw[aj (by grind),aj h0,Ww,aa];by_cases h1:preB [46,46,47] s=true;·have:=RP h1;simp only[ae,aq]at this;rw[an h1,an h1,show(3:Int)=((3:Nat):Int)from rfl,BP fM,aa];exact M8 hM hN k _ out bq (by grind) (by grind) hl ht
  rw[aj h1,aj h1,Ww,aa];by_cases h2:preB [46,47] s=true;·have:=RP h2;simp only[ae,aq]at this;rw[an h2,an h2,show(2:Int)=((2:Nat):Int)from rfl,BP fM,aa];exact M8 hM hN k _ out bq (by grind) (by grind) hl ht
  rw[aj h2,aj h2,Ww,aa];by_cases h3:preB [47,46,47] s=true;·have:=RP h3;simp only[ae,aq]at this;rw[an h3,an h3,show(2:Int)=((2:Nat):Int)from rfl,BP fM,aa];exact M8 hM hN k _ out bq (by grind) (by grind) hl ht
  rw[aj h3,aj h3];by_cases h4:s=[47,46];·rw[an (by grind),an h4];have:=br List.length h4;simp only[ae,aq]at this;exact M8 hM hN k _ out bq (by grind) (by grind) hl ht
  rw[aj (by grind),aj h4];dsimp only[AB];rw[Ww,aa];have hcut: ∀s2:B8,s2.length<k->s2.length+out.length<=M->∀(v:Int),v=(match RI out out.length with|some i=>(i:Int)|none=> -1)->grd (0<=(if v>0 then v else 0)/\(if v>0 then v else 0)<=(out.length:Int)) (Aw N k s2 ((if v>0 then v else 0).toNat) bq)=some (Ll k s2 (Lr out)):=by intro s2 hs2 hs3 v hv;obtain⟨e1,e2,e3⟩:=Anr out v hv;rw[AP ⟨e2,e3⟩,e1];exact M8 hM hN k s2 (Lr out) bq hs2 fM fM (AZI ht)
  have htail: ∀s2:B8,s2.length<k->s2.length+out.length<=M->(grd (out.length<=bq.length/\AL out.length) ((strings_LastIndexByte N (List.map Fg (List.take out.length bq)) 47).bind λy20=>grd (0<=(if y20>0 then y20 else 0)/\(if y20>0 then y20 else 0)<=(out.length:Int)) (Aw N k s2 ((if y20>0 then y20 else 0).toNat) bq)))=some (Ll k s2 (Lr out)):=by intro s2 hs2 hs3;rw[AP ⟨hl,by grind[AL]⟩,hchr,AGO out fM fM,aa];exact hcut s2 hs2 hs3 _ rfl
  by_cases h5:preB [47,46,46,47] s=true
  ·obtain⟨t,rfl⟩:=RU h5;have e3:([47,46,46,47]++t:B8).drop 3=47::t:=rfl;have ep:preB [47] (47::t)=true:=by simp_all[preB]
   simp only[ag,ae,aq]at hk hb;rw[an h5,an h5,an rfl,show(3:Int)=((3:Nat):Int)from rfl,BP fN,aa,e3,AUv,an ep,aa,Ap fP];exact htail (47::t) (by grind) (by grind)
  rw[aj h5,aj h5];by_cases h6:s=[47,46,46];·subst h6;simp only[ae,aq]at hk hb;rw[an (by rfl),an rfl,show(3:Int)=((3:Nat):Int)from rfl,BP fN,aa,AUv,aj fO,aa,Ap fN];exact htail [47] (by grind) (by grind)
  rw[aj (by grind),aj h6];have hdd:(if(s==([46]:B8))=true then Aw N k [] out.length bq else if(s==([46,46]:B8))=true then Aw N k [] out.length bq else(sub s 1 (s.length:Int)).bind λx26=>(strings_IndexByte N x26 47).bind λy27=>if((wr .i64 (1+y27))==0)=true then(sub s 0 (s.length:Int)).bind λx33=>grd (out.length<=bq.length/\Af (out.length+x33.length) 1) ((sub s (s.length:Int) (s.length:Int)).bind λx35=>Aw N k x35 (out.length+x33.length) (List.take out.length bq++List.map AJ x33))else(sub s 0 (wr .i64 (1+y27))).bind λx33=>grd (out.length<=bq.length/\Af (out.length+x33.length) 1) ((sub s (wr .i64 (1+y27)) (s.length:Int)).bind λx35=>Aw N k x35 (out.length+x33.length) (List.take out.length bq++List.map AJ x33)))=some (if s=[46]\/s=[46,46]then Ll k [] out else Ll k (s.drop (QI s)) (out++s.take (QI s))):=by
   have hrec:=M8 hM hN k [] out bq (by grind) (by grind) hl ht;by_cases h7:s=[46];·simp_all
   by_cases h8:s=[46,46];·simp_all
   have hsl:=AkU h0;have h1s:1<=QI s:=by grind[QI]
   rw[aj (by grind),aj (by grind),aj (by grind),show(1:Int)=((1:Nat):Int)from rfl,BP fM,aa,show(47:Int)=AJ 47 from rfl,KP,aa,PG];have fin:((sub s 0 ((QI s:Nat):Int)).bind λx33=>grd (out.length<=bq.length/\Af (out.length+x33.length) 1) ((sub s ((QI s:Nat):Int) (s.length:Int)).bind λx35=>Aw N k x35 (out.length+x33.length) (List.take out.length bq++List.map AJ x33)))=some (Ll k (s.drop (QI s)) (out++s.take (QI s))):=by rw[show(0:Int)=((0:Nat):Int)from rfl,Av s 0 _ (aM _) hsl,aa,AP ⟨hl,Pz (by grind)⟩,BP hsl,aa,aN,bw,ht];have hlen:out.length+(List.take (QI s) s).length=(out++List.take (QI s) s).length:=fN;rw[hlen];exact M8 hM hN k _ (out++s.take (QI s)) _ (by grind) (by grind) fN (by grind[List.take_of_length_le])
   by_cases hc:(s.drop 1).contains 47=true
   ·have e:wr .i64 (((1:Nat):Int)+(((s.drop 1).takeWhile (· !=47)).length:Int))=((QI s:Nat):Int):=by unfold QI at hsl⊢;rw[Ak fM];omega
    rw[an hc,e,aj (by grind)];omega
   ·rw[aj hc,an (by rfl)];have hc':(s.drop 1).contains 47=false:=by grind
    have e:QI s=s.length:=by grind[Vl,QI,List.length_drop]
    simp_all
  simp_all
def As1 (s:B8) (hN:20000<=N) (hb:s.length<=16380):Dj N s=some (Ll N s []):=by unfold Dj;rw[AP (by grind[Ux])];have:=M8 (N:=N) (M:=16380) fM fM N s [] (List.replicate (0:Int).toNat 0) fM fP fN fN;grind
def ADm (s:B8) (hN:100000<=N) (hb:s.length<=40000):Dj N s=some (Ll N s []):=by unfold Dj;rw[AP (by grind[Ux])];have:=M8 (N:=N) (M:=40000) fM fM N s [] (List.replicate (0:Int).toNat 0) fM fP fN fN;grind
theorem PP: ∀(k:Nat) (s out:B8),(Ll k s out).length<=s.length+out.length
 |0,s,out=>by simp[Ll]
 |k+1,s,out=>by
  have hso:=WQ out;rw[Ll];split;·omega
  split;·have:=PP k (s.drop 3) out;grind
  split;·have:=PP k (s.drop 2) out;grind
  split;·have:=PP k (s.drop 2) out;grind
  split;·rename_i h;have:=PP k [47] out;grind
  split;·have:=PP k (s.drop 3) (Lr out);grind
  split;·rename_i h;have:=PP k [47] (Lr out);grind
  split;·have:=PP k [] out;grind
  ·have:=PP k (s.drop (QI s)) (out++s.take (QI s));grind
def NP (a:B8):Prop:=a.map DL=[104,116,116,112,115]
def AAe{a:B8} (h:NP a):a.length=5/\∀x,x∈a->K6 x=true/\x.toNat<128/\x≠35/\x≠63/\x≠47/\x≠58/\x≠64:=by
 refine⟨by have:=br List.length h;simp_all,λx AX=>?_⟩;have hm:DL x∈([104,116,116,112,115]:B8):=by rw[<-h];grind
 have key:=Bl (f:=λn=>(!([104,116,116,112,115]:B8).contains (DL (UInt8.ofNat n)))||(AC3 n&&decide (n<128)&&decide (n≠35)&&decide (n≠63)&&decide (n≠47)&&decide (n≠58)&&decide (n≠64))) (g:=λ_=>true) (by kernel_rfl) x;simp only[bP]at key;rw[show([104,116,116,112,115]:B8).contains (DL x)=true by grind]at key;simp only[bo,bk,aw,au]at key;obtain⟨⟨⟨⟨⟨⟨k1,k2⟩,k3⟩,k4⟩,k5⟩,k6⟩,k7⟩:=key;refine⟨k1,k2,?_,?_,?_,?_,?_⟩<;>(rintro rfl;simp_all)
def ACR{c:UInt8}: ∀(pre t:B8),(∀x,x∈pre->x≠c)->Ac c (pre++t)=(pre++(Ac c t).1,(Ac c t).2)
 |[],t,_=>rfl
 |x::pre,t,h=>by
  have ih:=ACR pre t λy hy=>h y (by grind);have AX:x≠c:=h x fN;have e1:(c==x)=false:=by grind
  have e2:(x !=c)=true:=by grind
  rw[bD];cases hc:(pre++t).contains c;·rw[Ui (by rw[bA,e1,hc];rfl)];rw[Ui hc]at ih;simp only[aB]at ih;obtain⟨i1,i2⟩:=ih;rw[bD,<-i1,<-i2]
  ·rw[Gf (by grind),bg,e2,bX,e2];rw[Gf hc]at ih;simp_all
def A1S{α:Type} (c:UInt8) (l:B8) (hb:l.length<=1000000) (k:B8×B8×Bool->Option α):((BO N l [c]).bind λy=>if(decide (y<(l.length:Int)))=true then(sub l (wr .i64 (y+1)) (l.length:Int)).bind λx7=>(sub l 0 y).bind λx8=>k (x8,x7,true)else k (l,[],false))=k (Ac c l):=by
 have hw:(λx:UInt8=>!([c]:B8).contains x)=(λx=>x !=c):=by grind
 rw[OW l [c] fN fM,aa,hw];cases hc:l.contains c;·rw[Vl l hc,aj fN,Ui hc]
 ·have hlt:=PE hc;obtain⟨s1,s2⟩:=APR hc hb;rw[PG,an hc]at s1 s2;have w0:wr .i64 (((l.takeWhile (· !=c)).length:Int)+0)=((l.takeWhile (· !=c)).length:Int):=by grind[Ak]
  rw[w0]at s1;rw[an (by grind),show((1:Int))=(([c]:B8).length:Int)from rfl,s2,aa,s1,aa,Gf hc]
def Pk (r:B8):B8×B8×Bool:=if preB [47,47] r=true then((r.drop 2).dropWhile (· !=47),(r.drop 2).takeWhile (· !=47),true)else(r,[],false)
def XJ (a b:B8):AT:=⟨a,(Pk (Ac 63 (Ac 35 b).1).1).2.1,(Pk (Ac 63 (Ac 35 b).1).1).1,(Ac 63 (Ac 35 b).1).2.1,(Ac 35 b).2.1,true,(Pk (Ac 63 (Ac 35 b).1).1).2.2,(Ac 63 (Ac 35 b).1).2.2,(Ac 35 b).2.2⟩
def ZO (k2:Unit->Option Bool): ∀(l:B8) (i:Int),(∀x,x∈l->K6 x=true)->Dn N k2 l i=k2 ()|[],i,_=>by rw[Dn]|c::l,i,h=>by rw[Dn];dsimp only[AB];rw[Tv,aa,h c fN,an rfl,aj fO];exact ZO k2 l (i+1) λx AX=>h x (by grind)
def AZw{a:B8} (h:NP a):Ma N a=some true:=by obtain⟨h5,hl⟩:=AAe h;unfold Ma;rw[AB,Ap fM,ZO _ a 0 λx AX=>(hl x AX).1];cases a with|nil=>grind|cons _ _=>rfl
def Ayj{p:UInt8->Bool}: ∀(a:B8){x:UInt8}{t:B8},(∀y,y∈a->p y=true)->p x=false->(a++x::t).takeWhile p=a|[],x,t,_,AX=>by rw[bl,bg,AX];rfl|y::a,x,t,h,AX=>by simp_all
def AtU{a:B8} (h:NP a): ∀y,y∈a->(!([58,47]:B8).contains y)=true:=λy hy=>by obtain⟨_,_,_,_,k5,k6,_⟩:=(AAe h).2 y hy;grind
def AmE{α:Type}{d:JD Int} (r:B8) (hb:r.length<=1000000) (k:B8×B8×Bool->Option α):((strings_CutPrefix N r ([47,47]:B8)).bind λy24=>if y24.2=true then(strings_IndexByte N y24.1 47).bind λy26=>AA (λj28:Int=>(sub y24.1 0 j28).bind λx32=>(sub y24.1 j28 (y24.1.length:Int)).bind λx33=>k (x33,x32,true)) (λk29=>if(decide (y26<0))=true then k29 (y24.1.length:Int)else k29 y26) d else k (r,[],false))=k (Pk r):=by
 rw[AHW,aa];unfold Pk;by_cases h:preB [47,47] r=true
 ·rw[an h,an h];simp only[az,ae,aq];rw[show(47:Int)=AJ 47 from rfl,KP,aa,PG,AB];generalize hq:r.drop (0+1+1)=q;have hql:q.length<=1000000:=by grind
  cases hc:q.contains 47
  ·have hd:q.dropWhile (· !=(47:UInt8))=[]:=by have e:=bh (p:=(· !=(47:UInt8))) (l:=q);rw[Vl q hc]at e;simp_all
   simp only[ap,aA];rw[an fO,show(0:Int)=((0:Nat):Int)from rfl,Av q 0 _ (aM _) (av _),aa,BP (av _),aa,Vl q hc,hd];simp
  ·have hlt:=PE hc;simp only[az];rw[aj fN,show(0:Int)=((0:Nat):Int)from rfl,Av q 0 _ (aM _) fM,aa,BP fM,aa,aN,bw,Ht,MN]
 simp_all
def Axq{α:Type} (r:B8) (hb:r.length<=1000000) (k:B8×B8×Bool->Option α):((E8 N r ([47,47]:B8)).bind λy36=>if y36=true then(sub r 2 (r.length:Int)).bind λx38=>(BO N x38 ([47]:B8)).bind λy39=>(sub r 2 (wr .i64 (2+y39))).bind λx41=>(sub r (wr .i64 (2+y39)) (r.length:Int)).bind λx42=>k (x42,x41,true)else k (r,[],false))=k (Pk r):=by
 have hw:(λx:UInt8=>!([47]:B8).contains x)=(λx=>x !=47):=by grind
 rw[WX,aa];unfold Pk;by_cases h:preB [47,47] r=true
 ·have hl:=RP h;simp only[ae,aq]at hl;have hle:=UK (· !=(47:UInt8)) (r.drop 2);rw[aG]at hle;rw[an h,an h,show(2:Int)=((2:Nat):Int)from rfl,BP fM,aa,OW _ [47] fN (by grind),aa,hw];have e:wr .i64 (((2:Nat):Int)+(((r.drop 2).takeWhile (λx=>x !=47)).length:Int))=((2+((r.drop 2).takeWhile (λx=>x !=47)).length:Nat):Int):=by grind[Ak]
  rw[e,Av r 2 _ fM fM,aa,BP fM,aa,show 2+((r.drop 2).takeWhile (λx=>x !=47)).length-2=((r.drop 2).takeWhile (λx=>x !=47)).length by omega,Ht,<-aT,MN]
 simp_all
def AxQ{c:UInt8}{a b:B8} (h: ∀x,x∈a->x≠c) (hc:(58:UInt8)≠c):Ac c (a++58::b)=(a++58::(Ac c b).1,(Ac c b).2):=by
 rw[show a++58::b=(a++[58])++b by simp,ACR (a++[58]) b (by
  intro x AX;simp only[aZ,aO,dB,eM]at AX;rcases AX with AX|rfl;·exact h x AX
  ·exact hc)];simp
def At9{a b:B8} (h:NP a) (hb:(a++58::b).length<=16384) (hN:20000<=N):NA N (a++58::b)=some (XJ a b,0):=by
 obtain⟨h5,hl⟩:=AAe h;simp only[ag,ae]at hb;have hc1:=FZ 35 b;have hc2:=FZ 63 (Ac 35 b).1;unfold NA XJ;rw[aj (by simp only[ag,ae,au];omega),P6 35 _ (by grind),aa,AxQ (c:=35) (λx AX=>(hl x AX).2.2.1) fO,P6 63 _ (by grind),aa,AxQ (c:=63) (λx AX=>(hl x AX).2.2.2.1) fO];dsimp only;generalize (Ac 63 (Ac 35 b).1)=d at *;obtain⟨r,q,hq⟩:=d;dsimp only at *;have hset:=AtU h;have htw:((a++58::r).takeWhile λc=>!([58,47]:B8).contains c)=a:=Ayj a hset fO;have hany:(a++58::r).any ([58,47]:B8).contains=true:=fN;refine(KD (a:=(r,a,true)) λk=>?_).trans ?_;·rw[Ws fO fO fO (by grind) (by grind) fM,aa];unfold AAU;rw[an hany,htw];have hget:(a++58::r)[a.length]?=some 58:=fN;dsimp only[AB];rw[an fN,D7,hget,aa,an fO,show(0:Int)=((0:Nat):Int)from rfl,Av _ 0 _ (aM _) fN,aa,aN,bw,eN,AZw h,aa,an rfl,show wr .i64 ((a.length:Int)+1)=((a.length+1:Nat):Int) by grind[Ak],BP fN,aa];simp
 ·dsimp only;refine(KD (a:=Pk r) λk=>AmE r fM k).trans ?_;rfl
def Afq (c:UInt8):Bool:=([43,45,46]:B8).contains c
def AZo (c:UInt8):Bool:=K6 c||(Fj c||Afq c)
def AEa:B8->Bool|[]=>false|c::t=>K6 c&&t.all AZo
def OV (c:UInt8):Bool:=!([58,47]:B8).contains c
def AGW (set:B8): ∀l:B8,l.any set.contains=!((l.dropWhile λc=>!set.contains c)==[])
 |[]=>rfl
 |c::l=>by
  rw[bN,bX];cases h:set.contains c;·rw[bk,AGW set l];rfl
  ·simp
def AFc (d:B8):Option (B8×B8):=if(d.dropWhile OV).head?=some 58 then some (d.takeWhile OV,(d.dropWhile OV).drop 1)else none
def AgP:AT:=⟨[],[],[],[],[],false,false,false,false⟩
def usT (s:B8) (a:B8) (h:Bool) (d:B8):AT:=⟨a,(Pk d).2.1,(Pk d).1,(Ac 63 (Ac 35 s).1).2.1,(Ac 35 s).2.1,h,(Pk d).2.2,(Ac 63 (Ac 35 s).1).2.2,(Ac 35 s).2.2⟩
def OH (s:B8):AT×Int:=if s.length>16384 then(AgP,5)else match AFc (Ac 63 (Ac 35 s).1).1 with|none=>(usT s [] false (Ac 63 (Ac 35 s).1).1,0)|some (a,r)=>if AEa a=true then(usT s a true r,0)else(AgP,6)
def A2j (c:UInt8):decide (Go.Lib.indexByte ([43,45,46]:B8) c<0)=!Afq c:=by grind[Afq,Go.Lib.indexByte]
def AGN (k2:Unit->Option Bool): ∀(l:B8) (i:Int),1<=i->Dn N k2 l i=if l.all AZo=true then k2 ()else some false
 |[],i,_=>by grind[Dn]
 | c::l,i,h=>by
  have ih:=AGN k2 l (i+1) fM;have h0:(i==0)=false:=by grind
  rw[Dn];dsimp only[AB];rw[Tv,aa,aQ];unfold AZo at *;cases K6 c
  ·rw[aj fO,h0,aj fO,Wn,aa];cases Fj c;·rw[aj fO,KP,aa,A2j];cases Afq c<;>simp_all[Afq]
   simp_all
  simp_all
def AwL{a:B8} (hb:a.length<=1000000):Ma N a=some (AEa a):=by
 unfold Ma AEa;rw[AB,Ap fM];cases a with
 |nil=>grind[Dn]
 |cons c t=>
  rw[Dn];dsimp only[AB];rw[Tv,aa];cases K6 c;·rfl
  ·rw[an rfl,aj fO,AGN _ t _ fM];cases t.all AZo<;>rfl
def AGM (k2:Unit->Option Bool): ∀(l:B8) (i:Int),1<=i->EN N k2 l i=if l.all AZo=true then k2 ()else some false
 |[],i,_=>by grind[EN]
 | c::l,i,h=>by
  have ih:=AGM k2 l (i+1) fM;have h0:(i==0)=false:=by grind
  rw[EN];dsimp only[AB];rw[UL,aa,aQ];unfold AZo at *;cases K6 c
  ·rw[aj fO,h0,aj fO,UX,aa];cases Fj c
   ·rw[aj fO,YS _ _ fO,aa];unfold Afq;cases ([43,45,46]:B8).contains c;·rfl
    ·rw[aj fO,ih];rfl
   simp_all
  simp_all
def Aw1{a:B8} (hb:a.length<=1000000):NK N a=some (AEa a):=by
 unfold NK AEa;rw[AB,Ap fM];cases a with
 |nil=>grind[EN]
 |cons c t=>
  rw[EN];dsimp only[AB];rw[UL,aa];cases K6 c;·rfl
  ·rw[an rfl,aj fO,AGM _ t _ fM];cases t.all AZo<;>rfl
def ABe{α:Type} (d:B8) (e:Option α) (k:B8×B8×Bool->Option α):Option α:=match AFc d with|none=>k (d,[],false)|some (a,r)=>if AEa a=true then k (r,a,true)else e
def Vw (d:B8):d.takeWhile OV++d.dropWhile OV=d:=bh
theorem Adj{α:Type}{d:B8} (hb:d.length<=1000000) (hN:20<=N) (e:Option α) (k:B8×B8×Bool->Option α){D:JD Bool}:((strings_IndexAny N d ([58,47]:B8)).bind λy9=>AA (λj11:Bool=>if j11=true then(sub d 0 y9).bind λx16=>(Ma N x16).bind λy17=>if y17=true then(sub d (wr .i64 (y9+1)) (d.length:Int)).bind λx19=>k (x19,x16,true)else e else k (d,[],false)) (λk12=>if(decide (y9>=0))=true then(idx d y9).bind λx15=>k12 ((AJ x15)==58)else k12 false) D)=ABe d e k:=by
 rw[AhX hb hN,aa];dsimp only[AB];unfold AAU ABe AFc;rw[AGW];change _=_;have hw:(d.takeWhile λc=>!([58,47]:B8).contains c)=d.takeWhile OV:=rfl;have hd:(d.dropWhile λc=>!([58,47]:B8).contains c)=d.dropWhile OV:=rfl;rw[hw,hd];have hs:=Vw d;cases AX:d.dropWhile OV with
 |nil=>rfl
 | cons c t=>
  have hlen:d.length=(d.takeWhile OV).length+(t.length+1):=by have:=br List.length hs;grind
  have hget:d[(d.takeWhile OV).length]?=some c:=by grind
  rw[show(!((c::t)==([]:B8)))=true from rfl,an rfl,an fN,D7,hget,aa,List.head?_cons];by_cases h:c=58
  ·subst h;rw[an fO,an rfl,show(0:Int)=((0:Nat):Int)from rfl,Av _ 0 _ (aM _) fM,aa,aN,bw,Ht,AwL fM,aa];dsimp only;cases AEa (d.takeWhile OV);·rfl
   ·rw[an rfl,an rfl,show wr .i64 (((d.takeWhile OV).length:Int)+1)=(((d.takeWhile OV).length+1:Nat):Int) by grind[Ak],BP fM,aa,<-aT,MN,AX]
  ·have hb':((AJ c)==58)=false:=by rw[show(58:Int)=AJ 58 from rfl,AoK];grind
   simp_all
theorem Aif{α:Type}{d:B8} (hb:d.length<=1000000) (e:Option α) (k:B8×B8×Bool->Option α){D:JD Bool}:((BO N d ([58,47]:B8)).bind λy9=>AA (λj11:Bool=>if j11=true then(sub d 0 y9).bind λx16=>(NK N x16).bind λy17=>if y17=true then(sub d (wr .i64 (y9+1)) (d.length:Int)).bind λx19=>k (x19,x16,true)else e else k (d,[],false)) (λk12=>if(decide (y9<(d.length:Int)))=true then(idx d y9).bind λx15=>k12 ((AJ x15)==58)else k12 false) D)=ABe d e k:=by
 rw[OW _ _ fO fM,aa];dsimp only[AB];unfold ABe AFc;have hw:(d.takeWhile λc=>!([58,47]:B8).contains c)=d.takeWhile OV:=rfl;rw[hw];have hs:=Vw d;cases AX:d.dropWhile OV with
 |nil=>simp_all
 | cons c t=>
  have hlen:d.length=(d.takeWhile OV).length+(t.length+1):=by have:=br List.length hs;grind
  have hget:d[(d.takeWhile OV).length]?=some c:=by grind
  rw[an (by grind),D7,hget,aa,List.head?_cons];by_cases h:c=58
  ·subst h;rw[an fO,an rfl,show(0:Int)=((0:Nat):Int)from rfl,Av _ 0 _ (aM _) fM,aa,aN,bw,Ht,Aw1 fM,aa];dsimp only;cases AEa (d.takeWhile OV);·rfl
   ·rw[an rfl,an rfl,show wr .i64 (((d.takeWhile OV).length:Int)+1)=(((d.takeWhile OV).length+1:Nat):Int) by grind[Ak],BP fM,aa,<-aT,MN,AX]
  ·have hb':((AJ c)==58)=false:=by rw[show(58:Int)=AJ 58 from rfl,AoK];grind
   simp_all
def AUs{α β:Type}{K:α->Option β}{body:(α->Option β)->Option β}{d:JD α}{X:(α->Option β)->Option β} (h: ∀k:α->Option β,body k=X k):AA K body d=X K:=h K
def UV (s:B8) (hb:s.length<=1000000) (hN:20<=N):NA N s=some (OH s):=by
 have hc1:=FZ 35 s;have hc2:=FZ 63 (Ac 35 s).1;unfold NA OH;by_cases h:s.length>16384;·rw[an (by grind),an h];rfl
 rw[aj (by grind),aj h,P6 35 _ fM,aa,P6 63 _ fM,aa];generalize hd:(Ac 63 (Ac 35 s).1).1=d at *;refine(AUs (X:=λk=>ABe d (some (AgP,6)) k) λk=>Adj fM hN _ k).trans ?_;unfold ABe;cases hcol:AFc d with
 |none=>dsimp only;refine(KD (a:=Pk d) λk=>AmE d fM k).trans ?_;rfl
 | some p=>
  obtain⟨a,r⟩:=p;dsimp only;cases AEa a;·rfl
  ·have hr:r.length<=d.length:=by
    unfold AFc at hcol;split at hcol;·cases hcol;have:=br List.length (Vw d);grind
    grind
   rw[an rfl,an rfl];refine(KD (a:=Pk r) λk=>AmE r fM k).trans ?_;rfl
def Xg (s:B8) (hb:s.length<=1000000):Mo N s=some (OH s):=by
 have hc1:=FZ 35 s;have hc2:=FZ 63 (Ac 35 s).1;unfold Mo OH;by_cases h:s.length>16384;·rw[an (by grind),an h];rfl
 rw[aj (by grind),aj h];refine(KD (a:=Ac 35 s) λk=>A1S 35 _ fM k).trans ?_;refine(KD (a:=Ac 63 (Ac 35 s).1) λk=>A1S 63 _ fM k).trans ?_;generalize hd:(Ac 63 (Ac 35 s).1).1=d at *;refine(AUs (X:=λk=>ABe d (some (AgP,6)) k) λk=>Aif fM _ k).trans ?_;unfold ABe;cases hcol:AFc d with
 |none=>dsimp only;refine(KD (a:=Pk d) λk=>Axq d fM k).trans ?_;rfl
 | some p=>
  obtain⟨a,r⟩:=p;dsimp only;cases AEa a;·rfl
  ·have hr:r.length<=d.length:=by
    unfold AFc at hcol;split at hcol;·cases hcol;have:=br List.length (Vw d);grind
    grind
   rw[an rfl,an rfl];refine(KD (a:=Pk r) λk=>Axq r fM k).trans ?_;rfl
def AFo (k4:Unit->Option Bool): ∀ps:List B8,(∀p,p∈ps->p.length<=2^60)->He N k4 ps=if(ps.all λp=>(Dw 255 p).2==0)=true then k4 ()else some false|[],_=>by grind[He]|p::ps,h=>by rw[He,show(255:Int)=((255:Nat):Int)from rfl,YF fO p (h p fN),aa,AFo k4 ps λq hq=>h q (by grind),aQ];cases hx:((Dw 255 p).2==0)<;>simp[bne,hx]
def Ac4 (l:B8) (hb:l.length<=1000000):Oo N l=some (ADI l):=by
 have hl:=H5 46 l;have hp:=IY 46 l;unfold Oo;rw[Wq l 46 hb,aa];dsimp only[AB];rw[Ap fM,AFo _ _ λp h=>by grind];unfold ADI;have e:(((AV 46 l).length:Int) !=4)=!decide ((AV 46 l).length=4):=by grind
 rw[e];cases decide ((AV 46 l).length=4)<;>cases ((AV 46 l).all λp=>(Dw 255 p).2==0)<;>simp
def ACf (l:B8) (hN:300<=N):P7 N l=some (Jy l):=by
 unfold P7 Jy;by_cases h:l=[];·grind
 rw[aj (by grind),aj h];by_cases h2:l.length>253;·rw[an (by simp only[au];omega),an h2]
 rw[aj (by simp only[au];omega),aj h2];dsimp only[AB];rw[Ac4 l fM,aa,Aqi l fM fM,aa,lower_eq l fM,aa];cases ADI l<;>cases VV l<;>rfl
def AkJ (l:B8) (hN:300<=N) (hb:l.length<=1000000):QE N l=some (hpS l):=by
 have hle:=FZ 58 l;unfold QE hpS;rw[P6 58 l fM,aa,ACf _ hN,aa];dsimp only[AB];rw[Ant _ fM,aa];by_cases h:((Jy (Ac 58 l).1).2 !=0)=true;·grind
 ·rw[aj h,aj h];cases (Ac 58 l).2.2;·rfl
  ·simp only[az];by_cases hp:((U3 (Ac 58 l).2.1).2 !=0)=true;·simp_all
   ·rw[aj hp,aj hp];split<;>rfl
def QC (p:Int):Prop:=0<=p/\p<=65535
theorem Aqf (l:B8):QC (U3 l).1:=by grind[VZ,U3,QC]
theorem ADU (l:B8):QC (hpS l).1.g:=by grind[Aqf,Ac,hpS,QC]
theorem Ty (l:B8):(Jy l).1.length<=253:=by grind[Jy]
theorem Y7 (l:B8):(hpS l).1.d.length<=253:=by grind[Ty,Ac,hpS]
def hpF (h:B8) (p:Int):B8:=if p=0 then h else h++[58]++fmtS p.toNat
def WU (h:B8) (p:Int):(hpF h p).length<=h.length+21:=by grind[Tt,hpF]
def AwD (h:B8) (p:Int) (hp:QC p) (hb:h.length<=1000000) (hN:20<=N):Qd N ⟨h,p⟩=some (hpF h p):=by
 have hl:=Tt p.toNat;obtain⟨h1,h2⟩:=hp;unfold Qd hpF;by_cases h0:p=0;·simp_all
 ·rw[aj (by grind),aj h0,aj (by grind)];have e:wr .u64 p=((p.toNat:Nat):Int):=by rw[Fw fM];omega
  simp only[e];rw[ADs p.toNat fM hN,aa,Ap fP,Ap fP]
def Aw8 (h:B8) (p:Int) (hp:QC p) (hb:h.length<=1000000) (hN:20<=N):PU N ⟨h,p⟩=some (hpF h p):=by
 have hl:=Tt p.toNat;obtain⟨h1,h2⟩:=hp;unfold PU Bp hpF;by_cases h0:p=0;·simp_all
 ·rw[aj (by grind),aj h0];have e:wr .u64 p=((p.toNat:Nat):Int):=by grind[Fw]
  simp only[e];rw[aj (by grind),ADr p.toNat fM hN,aa,aa,Ap (by grind),Ap (by grind)]
end
end Go.VM
