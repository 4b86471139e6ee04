import Derived.Test.YtenhbiooanampaaGreatDoorL2
set_option linter.defProp false
set_option linter.unusedVariables false
set_option linter.unusedSimpArgs false
namespace Go.VM
section
variable{N:Nat}
def DW (p:B8):B8->Option Nat|[]=>if p=[]then some 0 else none|x::l=>if p.isPrefixOf (x::l)=true then some 0 else(DW p l).map (· +1)
def PE{p:B8}: ∀ {l:B8}{k:Nat},DW p l=some k->k+p.length<=l.length/\(l.drop k).take p.length=p
 |[],k,h=>by
  unfold DW at h;split at h;·rename_i e;cases h;subst e;simp
  ·cases h
 |x::l,k,h=>by
  unfold DW at h;split at h;·rename_i e;cases h;obtain⟨t,ht⟩:=dq.1 e;rw[<-ht];simp
  ·cases hf:DW p l with|none=>rw[hf]at h;cases h|some i=>rw[hf]at h;cases h;obtain⟨h1,h2⟩:=PE hf;exact⟨by simp only[ae];omega,by simpa using h2⟩
def Ak3{p:B8} (l:B8): ∀ {i:Nat},i<l.length->DW p (l.drop i)=if p.isPrefixOf (l.drop i)=true then some 0 else(DW p (l.drop (i+1))).map (· +1):=by intro i hi;rw[bN hi];rfl
def UR{p:B8}: ∀ {l:B8},l.length<p.length->DW p l=none
 |[],h=>by unfold DW;rw[aj (by intro e;subst e;simp at h)]
 |x::l,h=>by
  unfold DW;rw[aj,UR (by simp only[ae]at h;omega)];·rfl
  ·intro e;have:=(dq.1 e).length_le;omega
def RZ (p l:B8):Int:=match DW p l with|some k=>(k:Int)|none=> -1
def WJ (p:B8): ∀l:B8,Go.Lib.index l p=RZ p l
 |[]=>by unfold RZ DW Go.Lib.index;cases p<;>rfl
 |x::l=>by
  unfold Go.Lib.index;rw[WJ p l];unfold RZ;rw[show DW p (x::l)=if p.isPrefixOf (x::l)=true then some 0 else(DW p l).map (· +1)from rfl];by_cases h:p.isPrefixOf (x::l)=true;·rw[an h,an h];rfl
  ·rw[aj h,aj h];cases DW p l with|none=>rfl|some k=>simp only[aN];rw[aj (by grind)];omega
def ApY{p l:B8} (hp:2<=p.length) (hb:l.length<=1000000000):strings_Index N l p=some (RZ p l):=by unfold strings_Index BF;rw[aj fK,AO fH,aa,WJ]
def AFA{p l:B8} (hp:1<=p.length) (hb:l.length+p.length<=1000000000) (k2:Unit->Option Int): ∀(m i k:Nat),l.length-i=m->i<=l.length->l.length-i<k->JR N l p k2 k (i:Int)=match DW p (l.drop i)with|some j=>some (((i+j:Nat):Int))|none=>k2 ()
 | m,i,k+1,hm,hi,hk=>by
  have w1:wr .i64 ((i:Int)+(p.length:Int))=((i+p.length:Nat):Int):=Ai fH;have w2:wr .i64 ((i:Int)+1)=((i+1:Nat):Int):=Ai fH;rw[JR,w1];by_cases h:i+p.length<=l.length
  ·rw[an fK,A8 l i (i+p.length) fH h,aa,show i+p.length-i=p.length by omega];have hi2:i<l.length:=fH;rw[Ak3 l hi2];have e:((l.drop i).take p.length==p)=p.isPrefixOf (l.drop i):=by rw[Bool.eq_iff_iff,bf,dq];exact⟨λh=>by rw[<-h];exact List.take_prefix _ _,λh=>(eX.1 h).symm⟩
   rw[e];by_cases h2:p.isPrefixOf (l.drop i)=true;·rw[an h2,an h2];simp
   ·rw[aj h2,aj h2,w2];cases m with|zero=>omega|succ m=>rw[AFA hp hb k2 m (i+1) k fH fH fH];cases DW p (l.drop (i+1))with|none=>rfl|some j=>simp only[aN];congr 2;omega
  ·rw[aj fK,UR (by rw[aP];omega)]
def Ui{p l:B8} (hp:1<=p.length) (hb:l.length+p.length<=1000000000) (hN:l.length<N):Ha N l p=some (RZ p l):=by unfold Ha;rw[AB];have:=AFA (N:=N) hp hb (λ_=>some (-1)) l.length 0 N fH fH fH;rw[show((0:Nat):Int)=0 from rfl]at this;rw[this,aO];unfold RZ;cases DW p l with|none=>rfl|some j=>simp
def Bg:B8:=[13,10]
def JV (l:B8):B8×B8×Bool:=match DW Bg l with|some k=>(l.take k,l.drop (k+2),true)|none=>(l,[],false)
def Aqk{l:B8} (hb:l.length<=1000000000):strings_Cut N l [13,10]=some (JV l):=by
 unfold strings_Cut Ej;have hi:BF N l [13,10]=some (RZ Bg l):=by unfold BF;rw[aj fJ,AO fH,WJ];rfl
 rw[hi,aa];unfold RZ JV;cases h:DW Bg l with|none=>rw[aj fI];rfl|some k=>have h1:=(PE h).1;simp only[Bg,ae,ap]at h1;have w:wr .i64 ((k:Int)+(([13,10]:B8).length:Int))=((k+2:Nat):Int):=Ai (by simp only[ae,ap];omega);rw[an fI,show(0:Int)=((0:Nat):Int)from rfl,A8 l 0 k fH fH,aa,w,Be fH,aa,aa];simp
def AU0: ∀l:B8,DW Bg (l++Bg)=some ((DW Bg l).getD l.length)
 |[]=>rfl
 |[x]=>by
  show(if Bg.isPrefixOf [x,13,10]=true then some 0 else(DW Bg [13,10]).map (· +1))=_;have h:Bg.isPrefixOf [x,13,10]=false:=by simp[Bg,List.isPrefixOf]
  rw[h];have h2:DW Bg [x]=none:=UR (by simp[Bg]);rw[h2];rfl
 |x::y::l=>by
  have ih:=AU0 (y::l);have e:Bg.isPrefixOf (x::y::l++Bg)=Bg.isPrefixOf (x::y::l):=by simp[Bg,List.isPrefixOf]
  rw[show DW Bg (x::y::l++Bg)=if Bg.isPrefixOf (x::y::l++Bg)=true then some 0 else(DW Bg (y::l++Bg)).map (· +1)from rfl,e,ih,show DW Bg (x::y::l)=if Bg.isPrefixOf (x::y::l)=true then some 0 else(DW Bg (y::l)).map (· +1)from rfl];by_cases h:Bg.isPrefixOf (x::y::l)=true;·rw[an h,an h];rfl
  ·rw[aj h,aj h];cases DW Bg (y::l)<;>rfl
def AL1: ∀(l:B8) (n:Nat),n<=Wj n l|[],n=>av _|c::l,n=>by have:=AL1 l (n * 16+Gc c.toNat);rw[Wj];omega
def Xp (m:Nat) (l:B8):Int×Int:=if l=[]then(0,3)else if l.all JX=true then(if Wj 0 l<=m then(((Wj 0 l:Nat):Int),0)else(0,4))else(0,1)
def Al0{m:Nat} (hm:m<=18446744073709551615) (k9:Int->Option (Int×Int)): ∀(l:B8) (n:Nat),l.all JX=true->n<=m->BV N 16 (m:Int) k9 l (n:Int)=if Wj n l<=m then k9 ((Wj n l:Nat):Int)else some (0,4)
 |[],n,_,hn=>by rw[BV,Wj,an hn]
 |c::l,n,h,hn=>by
  simp only[aQ,aw]at h;have hd:=VB c h.1;have hge:=AL1 l (n * 16+Gc c.toNat);rw[BV,Aae c h.1,aa,AB,AO fJ];have w3:wr .u64 (18446744073709551615-((Gc c.toNat:Nat):Int))=18446744073709551615-((Gc c.toNat:Nat):Int):=FV fH;rw[w3,bF fH,FV (n:=(18446744073709551615-((Gc c.toNat:Nat):Int)) / 16) fH,Wj];by_cases c1:(n:Int)>(18446744073709551615-((Gc c.toNat:Nat):Int)) / 16;·rw[an (aE c1),aj fH];rfl
  have w1:wr .u64 ((n:Int) * 16)=((n * 16:Nat):Int):=by rw[FV fH];omega
  have w2:wr .u64 (((n * 16:Nat):Int)+((Gc c.toNat:Nat):Int))=((n * 16+Gc c.toNat:Nat):Int):=by rw[FV fH];omega
  rw[aj (by simp only[au];exact c1),w1,w2];by_cases c2:n * 16+Gc c.toNat<=m;·have c3: ¬(((n * 16+Gc c.toNat:Nat):Int)>(m:Int)):=fH;rw[aJ c3];simp only[aq,az];exact Al0 hm k9 l _ h.2 c2
  ·have c3:(((n * 16+Gc c.toNat:Nat):Int)>(m:Int)):=fH;rw[aE c3,aj fH];rfl
def AlK{m:Nat} (hm:m<=18446744073709551615) (hm9:15<=m) (k9:Int->Option (Int×Int)): ∀(l:B8) (n:Nat),l.all JX=true->n<=m->Cj N 16 (m:Int) k9 l (n:Int)=if Wj n l<=m then k9 ((Wj n l:Nat):Int)else some (0,4)
 |[],n,_,hn=>by rw[Cj,Wj,an hn]
 | c::l,n,h,hn=>by
  simp only[aQ,aw]at h;have hd:=VB c h.1;have hge:=AL1 l (n * 16+Gc c.toNat);rw[Cj];simp only[AB];have hv:=AqZ c h.1;have key: ∀v:Int,v=((Gc c.toNat:Nat):Int)->(grd ((16:Int)≠0) (if decide ((n:Int)>wr .u64 ((m:Int).tdiv 16))=true then if true=true then(some (0,4):Option (Int×Int))else Cj N 16 (m:Int) k9 l (wr .u64 (wr .u64 ((n:Int) * 16)+v))else if decide (wr .u64 ((n:Int) * 16)>wr .u64 ((m:Int)-v))=true then if true=true then some (0,4)else Cj N 16 (m:Int) k9 l (wr .u64 (wr .u64 ((n:Int) * 16)+v))else if decide (v>(m:Int))=true then some (0,4)else Cj N 16 (m:Int) k9 l (wr .u64 (wr .u64 ((n:Int) * 16)+v))))=if Wj (n * 16+Gc c.toNat) l<=m then k9 ((Wj (n * 16+Gc c.toNat) l:Nat):Int)else some (0,4):=by
   rintro v rfl;rw[AO fJ,bF fH,FV (n:=(m:Int) / 16) fH,FV (n:=(m:Int)-((Gc c.toNat:Nat):Int)) fH];by_cases c1:(n:Int)>(m:Int) / 16;·rw[an (aE c1),an rfl,aj fH]
   have w1:wr .u64 ((n:Int) * 16)=((n * 16:Nat):Int):=by rw[FV fH];omega
   rw[aj (by simp only[au];exact c1),w1];by_cases c2:((n * 16:Nat):Int)>(m:Int)-((Gc c.toNat:Nat):Int);·rw[an (aE c2),an rfl,aj fH]
   have w2:wr .u64 (((n * 16:Nat):Int)+((Gc c.toNat:Nat):Int))=((n * 16+Gc c.toNat:Nat):Int):=by rw[FV fH];omega
   rw[aj (by simp only[au];exact c2),aj (by simp only[au];omega),w2];exact AlK hm hm9 k9 l _ h.2 fH
  rw[Wj];by_cases hc:AJ c>57;·simp only[hc,ft,aB]at hv⊢;exact key _ hv
  ·simp only[hc,ew,aq,az]at hv⊢;exact key _ hv
def Akv{m:Nat} (hm:m<=18446744073709551615) (l:B8) (hb:l.length<=2^60):PN N l (m:Int)=some (Xp m l):=by
 unfold PN GL Xp;by_cases h:l=[];·subst h;rfl
 ·rw[aj (by simpa using h),aj h];simp only[AB];rw[A9 fH,A9 fH,Atx];by_cases h1:l.all JX=true;·rw[an h1,an h1,show(0:Int)=((0:Nat):Int)from rfl,Al0 hm _ l 0 h1 fH];split<;>rfl
  ·rw[aj h1,aj h1];rfl
def AlG{m:Nat} (hm:m<=18446744073709551615) (hm9:15<=m) (l:B8) (hb:l.length<=2^60):QX N l (m:Int)=some (Xp m l):=by
 unfold QX J4 Xp;by_cases h:l=[];·subst h;rfl
 ·rw[aj (by simpa using h),aj h];simp only[AB];rw[A9 fH,A9 fH,AtV];by_cases h1:l.all JX=true;·rw[an h1,an h1,show(0:Int)=((0:Nat):Int)from rfl,AlK hm hm9 _ l 0 h1 fH];split<;>rfl
  ·rw[aj h1,aj h1];rfl
def AFM (l:B8) (hb:l.length<=2^60) (k2:List Int->Option B8): ∀(t pre:B8),l=pre++t->Gv N l k2 t (pre.length:Int) (List.map AJ (pre.map FP)++List.map AJ t)=k2 (List.map AJ (l.map FP))
 |[],pre,h=>by grind[Gv]
 | c::t,pre,h=>by
  have hlen:pre.length<l.length:=by grind
  have hc:=c.toNat_lt;have next:=AFM l hb k2 t (pre++[c]) (by grind);rw[<-Amu]at next;have hi:idx (List.map AJ (pre.map FP)++List.map AJ (c::t)) (pre.length:Int)=some (AJ c):=by grind[TI,List.map,AJ,FP]
  have hset:(List.map AJ (pre.map FP)++List.map AJ (c::t)).set pre.length (AJ (FP c))=List.map AJ ((pre++[c]).map FP)++List.map AJ t:=fI;rw[Gv];dsimp only[AB];rw[AO fH,hi,aa];by_cases h1:65<=c.toNat/\c.toNat<=90
  ·have e:FP c=UInt8.ofNat (c.toNat+32):=by simp_all[FP,AiR]
   have e2:AJ (FP c)=wr .u8 (AJ c+32):=by grind[AUt,AJ,toNat_ofNat]
   rw[an (by have:=NE c;grind),an (by have:=NE c;grind),AO fH,aa,AO (by simp<;>omega),<-e2];simp_all
  ·have e:FP c=c:=by unfold FP AiR;rw[aj h1];simp
   have e3:List.map AJ ((pre++[c]).map FP)++List.map AJ t=List.map AJ (pre.map FP)++List.map AJ (c::t):=by grind
   rw[e3]at next;by_cases h2:65<=c.toNat;·rw[an (by have:=NE c;grind),aj (by have:=NE c;grind)];omega
   ·rw[aj (by have:=NE c;grind),aj fJ];omega
def QY (l:B8) (hb:l.length<=2^60):EY N l=some (l.map FP):=by unfold EY;rw[AB,AO (by grind[AL])];have:=AFM (N:=N) l hb (λj1=>grd (l.length<=j1.length/\AL l.length) (some (List.map FQ (List.take l.length j1)))) l [] rfl;simp only[cv,bm,ap]at this;rw[show(0:Int)=((0:Nat):Int)from rfl,this,AO (by grind[AL]),ba fI,Lp]
def ZU (a b:B8) (ha:a.length<=2^60) (hb:b.length<=2^60):Jw N a b=some (a.map FP==b.map FP):=by unfold Jw;rw[lower_eq a ha,aa,lower_eq b hb,aa]
def ZE (a b:B8) (ha:a.length<=2^60) (hb:b.length<=2^60):IA N a b=some (a.map FP==b.map FP):=by unfold IA;rw[QY a ha,aa,QY b hb,aa]
def Ow (l:B8):B8×Int:=if l=[]then([],3)else if l.length>253 then([],5)else if(ARS l||Ud l)=true then(l.map FP,0)else([],50)
def AkY (l:B8):NT N l=some (Ow l):=by
 unfold NT Ow;by_cases h:l=[];·grind
 rw[aj (by grind),aj h];by_cases h2:l.length>253;·rw[an (by simp only[au];omega),an h2]
 rw[aj (by simp only[au];omega),aj h2];dsimp only[AB];rw[ArZ l fH,aa,Aki l fH,aa,QY l fH,aa];cases ARS l<;>cases Ud l<;>rfl
theorem Uz (m:Nat) (l:B8):0<=(Dp m l).1/\(Dp m l).1<=m:=by grind[Dp]
def Ti (l:B8):Int×Int:=if((Dp 65535 l).2 !=0||(Dp 65535 l).1==0)=true then(0,51)else((Dp 65535 l).1,0)
def AnM (l:B8) (hb:l.length<=2^60):SH N l=some (Ti l):=by have:=Uz 65535 l;unfold SH Ti;rw[show(65535:Int)=((65535:Nat):Int)from rfl,WW fJ l hb,aa];dsimp only[AB];rw[Ai fH];cases (Dp 65535 l).2 !=0<;>cases (Dp 65535 l).1==0<;>rfl
def Amw (l:B8) (hb:l.length<=2^60):Q3 N l=some (Ti l):=by have:=Uz 65535 l;unfold Q3 Ti;rw[show(65535:Int)=((65535:Nat):Int)from rfl,ACS fJ fJ l hb,aa];dsimp only[AB];rw[Ai fH];cases (Dp 65535 l).2 !=0<;>cases (Dp 65535 l).1==0<;>rfl
def hpS (l:B8):ApiHostPort×Int:=if((Ow (Af 58 l).1).2 !=0)=true then(⟨[],0⟩,(Ow (Af 58 l).1).2)else if(Af 58 l).2.2=true then(if((Ti (Af 58 l).2.1).2 !=0)=true then(⟨[],0⟩,(Ti (Af 58 l).2.1).2)else(⟨(Ow (Af 58 l).1).1,if((Ti (Af 58 l).2.1).1==443)=true then 0 else(Ti (Af 58 l).2.1).1⟩,0))else(⟨(Ow (Af 58 l).1).1,0⟩,0)
theorem UK{c:UInt8}: ∀l:B8,l.contains c=false->l.takeWhile (· !=c)=l
 |[],_=>rfl
 |x::t,h=>by
  rw[bC,d8]at h;have e:(x !=c)=true:=by simp only[fe,ek];grind
  rw[bc,e,an rfl,UK t h.2]
def Alr (l:B8) (hb:l.length<=1000000):Nr N l=some (hpS l):=by
 have hw:(λc:UInt8=>!([58]:B8).contains c)=(λc=>c !=58):=by grind
 have hle:=Sj (· !=(58:UInt8)) l;have h0:sub l 0 ((l.takeWhile (· !=(58:UInt8))).length:Int)=some (l.takeWhile (· !=(58:UInt8))):=by have:=A8 l 0 _ (aK _) hle;rw[aO,bB,HZ]at this;omega
 unfold Nr hpS;rw[PH l [58] fJ fH,aa,hw,h0,aa,AkY,aa];unfold Af;cases hc:l.contains 58
 ·have hall:l.takeWhile (· !=(58:UInt8))=l:=by grind[UK]
  simp only[aq,az];rw[hall];by_cases h:((Ow l).2 !=0)=true<;>simp_all[Ow]
 ·have hlt:=QA hc;have hd:l.drop ((l.takeWhile (· !=(58:UInt8))).length+1)=(l.dropWhile (· !=(58:UInt8))).drop 1:=by grind[List.drop_drop,List.takeWhile_append_dropWhile,List.drop_left]
  simp only[aB];by_cases h:((Ow (l.takeWhile (· !=(58:UInt8)))).2 !=0)=true;·grind
  ·rw[aj h,aj h,aj (by grind)];rw[show wr .i64 (((l.takeWhile (· !=(58:UInt8))).length:Int)+1)=(((l.takeWhile (· !=(58:UInt8))).length+1:Nat):Int) by grind[Ai],A8 l _ _ fH fH,aa,hd,ba (by have:=br List.length hd;grind),Amw _ (by grind[List.length_drop,List.dropWhile_sublist]),aa];dsimp only[AB];by_cases hp:((Ti ((l.dropWhile (· !=(58:UInt8))).drop 1)).2 !=0)=true;·simp_all
   ·rw[aj hp,aj hp];split<;>rfl
def AYS{out:B8}{bq:List Int} (h:List.take out.length bq=List.map AJ out):List.take (Ko out).length bq=List.map AJ (Ko out):=by
 have hle:=VS out;have e:List.take (Ko out).length (List.take out.length bq)=List.take (Ko out).length bq:=by rw[fu,fh hle]
 rw[<-e,h];unfold Ko;split;·rename_i i hi;have:=Xz hi;rw[bg,fh fH,fB]
 ·simp
def Ano (out:B8) (v:Int) (hv:v=(match QJ out out.length with|some i=>(i:Int)|none=> -1)):(if v>0 then v else 0).toNat=(Ko out).length/\0<=(if v>0 then v else 0)/\(if v>0 then v else 0)<=(out.length:Int):=by subst hv;unfold Ko;cases h:QJ out out.length with|none=>simp|some i=>have:=Xz h;simp only[bg];split<;>omega
theorem MM {M:Nat} (hM:M<=100000) (hN:M+100<=N): ∀(k:Nat) (s out:B8) (bq:List Int),s.length<k->s.length+out.length<=M->out.length<=bq.length->List.take out.length bq=List.map AJ out->Av N k s out.length bq=some (Kn k s out)
 |0,s,out,bq,h,_,_,_=>by omega
 | k+1,s,out,bq,hk,hb,hl,ht=>by
  rw[Av,Kn];have hchr:List.map FQ (List.take out.length bq)=out:=by rw[ht,Lp]
  have hso:=VS out;by_cases h0:s=[];·rw[an (by grind),an h0,AO ⟨hl,by grind[AL]⟩,hchr]
  have hpos:0<s.length:=bR.2 h0;rw[aj (by grind),aj h0,VU,aa];by_cases h1:preB [46,46,47] s=true;·have:=QO h1;simp only[ae,ap]at this;rw[an h1,an h1,show(3:Int)=((3:Nat):Int)from rfl,Be fH,aa];exact MM hM hN k _ out bq (by grind) (by grind) hl ht
  rw[aj h1,aj h1,VU,aa];by_cases h2:preB [46,47] s=true;·have:=QO h2;simp only[ae,ap]at this;rw[an h2,an h2,show(2:Int)=((2:Nat):Int)from rfl,Be fH,aa];exact MM hM hN k _ out bq (by grind) (by grind) hl ht
  rw[aj h2,aj h2,VU,aa];by_cases h3:preB [47,46,47] s=true;·have:=QO h3;simp only[ae,ap]at this;rw[an h3,an h3,show(2:Int)=((2:Nat):Int)from rfl,Be fH,aa];exact MM hM hN k _ out bq (by grind) (by grind) hl ht
  rw[aj h3,aj h3];by_cases h4:s=[47,46];·rw[an (by grind),an h4];have:=br List.length h4;simp only[ae,ap]at this;exact MM hM hN k _ out bq (by grind) (by grind) hl ht
  rw[aj (by grind),aj h4];dsimp only[AB];rw[VU,aa];have hcut: ∀s2:B8,s2.length<k->s2.length+out.length<=M->∀(v:Int),v=(match QJ out out.length with|some i=>(i:Int)|none=> -1)->grd (0<=(if v>0 then v else 0)/\(if v>0 then v else 0)<=(out.length:Int)) (Av N k s2 ((if v>0 then v else 0).toNat) bq)=some (Kn k s2 (Ko out)):=by intro s2 hs2 hs3 v hv;obtain⟨e1,e2,e3⟩:=Ano out v hv;rw[AO ⟨e2,e3⟩,e1];exact MM hM hN k s2 (Ko out) bq hs2 fH fH (AYS ht)
  have htail: ∀s2:B8,s2.length<k->s2.length+out.length<=M->(grd (out.length<=bq.length/\AL out.length) ((strings_LastIndexByte N (List.map FQ (List.take out.length bq)) 47).bind λy20=>grd (0<=(if y20>0 then y20 else 0)/\(if y20>0 then y20 else 0)<=(out.length:Int)) (Av N k s2 ((if y20>0 then y20 else 0).toNat) bq)))=some (Kn k s2 (Ko out)):=by intro s2 hs2 hs3;rw[AO ⟨hl,by grind[AL]⟩,hchr,AEz out fH fH,aa];exact hcut s2 hs2 hs3 _ rfl
  by_cases h5:preB [47,46,46,47] s=true
  ·obtain⟨t,rfl⟩:=QK h5;have e3:([47,46,46,47]++t:B8).drop 3=47::t:=rfl;have ep:preB [47] (47::t)=true:=by simp_all[preB]
   simp only[ah,ae,ap]at hk hb;rw[an h5,an h5,an rfl,show(3:Int)=((3:Nat):Int)from rfl,Be fI,aa,e3,AP6,an ep,aa,A9 fK];exact htail (47::t) (by grind) (by grind)
  rw[aj h5,aj h5];by_cases h6:s=[47,46,46];·subst h6;simp only[ae,ap]at hk hb;rw[an (by rfl),an rfl,show(3:Int)=((3:Nat):Int)from rfl,Be fI,aa,AP6,aj fJ,aa,A9 fI];exact htail [47] (by grind) (by grind)
  rw[aj (by grind),aj h6];have hdd:(if(s==([46]:B8))=true then Av N k [] out.length bq else if(s==([46,46]:B8))=true then Av N k [] out.length bq else(sub s 1 (s.length:Int)).bind λx26=>(strings_IndexByte N x26 47).bind λy27=>if((wr .i64 (1+y27))==0)=true then(sub s 0 (s.length:Int)).bind λx33=>grd (out.length<=bq.length/\Ae (out.length+x33.length) 1) ((sub s (s.length:Int) (s.length:Int)).bind λx35=>Av N k x35 (out.length+x33.length) (List.take out.length bq++List.map AJ x33))else(sub s 0 (wr .i64 (1+y27))).bind λx33=>grd (out.length<=bq.length/\Ae (out.length+x33.length) 1) ((sub s (wr .i64 (1+y27)) (s.length:Int)).bind λx35=>Av N k x35 (out.length+x33.length) (List.take out.length bq++List.map AJ x33)))=some (if s=[46]\/s=[46,46]then Kn k [] out else Kn k (s.drop (PD s)) (out++s.take (PD s))):=by
   have hrec:=MM hM hN k [] out bq (by grind) (by grind) hl ht;by_cases h7:s=[46];·simp_all
   by_cases h8:s=[46,46];·simp_all
   have hsl:=AkR h0;have h1s:1<=PD s:=by grind[PD]
   rw[aj (by grind),aj (by grind),aj (by grind),show(1:Int)=((1:Nat):Int)from rfl,Be fH,aa,show(47:Int)=AJ 47 from rfl,MC,aa,OY];have fin:((sub s 0 ((PD s:Nat):Int)).bind λx33=>grd (out.length<=bq.length/\Ae (out.length+x33.length) 1) ((sub s ((PD s:Nat):Int) (s.length:Int)).bind λx35=>Av N k x35 (out.length+x33.length) (List.take out.length bq++List.map AJ x33)))=some (Kn k (s.drop (PD s)) (out++s.take (PD s))):=by rw[show(0:Int)=((0:Nat):Int)from rfl,A8 s 0 _ (aK _) hsl,aa,AO ⟨hl,O0 (by grind)⟩,Be hsl,aa,aO,bB,ht];have hlen:out.length+(List.take (PD s) s).length=(out++List.take (PD s) s).length:=fI;rw[hlen];exact MM hM hN k _ (out++s.take (PD s)) _ (by grind) (by grind) fI (by grind[List.take_of_length_le])
   by_cases hc:(s.drop 1).contains 47=true
   ·have e:wr .i64 (((1:Nat):Int)+(((s.drop 1).takeWhile (· !=47)).length:Int))=((PD s:Nat):Int):=by unfold PD at hsl⊢;rw[Ai fH];omega
    rw[an hc,e,aj (by grind)];omega
   ·rw[aj hc,an (by rfl)];have hc':(s.drop 1).contains 47=false:=by grind
    have e:PD s=s.length:=by grind[UK,PD,List.length_drop]
    simp_all
  simp_all
def AqM (s:B8) (hN:20000<=N) (hb:s.length<=16380):De N s=some (Kn N s []):=by unfold De;rw[AO (by grind[Tq])];have:=MM (N:=N) (M:=16380) fH fH N s [] (List.replicate (0:Int).toNat 0) fH fK fI fI;grind
def AA8 (s:B8) (hN:100000<=N) (hb:s.length<=40000):De N s=some (Kn N s []):=by unfold De;rw[AO (by grind[Tq])];have:=MM (N:=N) (M:=40000) fH fH N s [] (List.replicate (0:Int).toNat 0) fH fK fI fI;grind
theorem OA: ∀(k:Nat) (s out:B8),(Kn k s out).length<=s.length+out.length
 |0,s,out=>by simp[Kn]
 |k+1,s,out=>by
  have hso:=VS out;rw[Kn];split;·omega
  split;·have:=OA k (s.drop 3) out;grind
  split;·have:=OA k (s.drop 2) out;grind
  split;·have:=OA k (s.drop 2) out;grind
  split;·rename_i h;have:=OA k [47] out;grind
  split;·have:=OA k (s.drop 3) (Ko out);grind
  split;·rename_i h;have:=OA k [47] (Ko out);grind
  split;·have:=OA k [] out;grind
  ·have:=OA k (s.drop (PD s)) (out++s.take (PD s));grind
def SA (a:B8):Prop:=a.map FP=[104,116,116,112,115]
def ZL{a:B8} (h:SA a):a.length=5/\∀x,x∈a->Me x=true/\x.toNat<128/\x≠35/\x≠63/\x≠47/\x≠58/\x≠64:=by
 refine⟨by have:=br List.length h;simp_all,λx AX=>?_⟩;have hm:FP x∈([104,116,116,112,115]:B8):=by rw[<-h];grind
 have key:=Bt (f:=λn=>(!([104,116,116,112,115]:B8).contains (FP (UInt8.ofNat n)))||(AB4 n&&decide (n<128)&&decide (n≠35)&&decide (n≠63)&&decide (n≠47)&&decide (n≠58)&&decide (n≠64))) (g:=λ_=>true) (by kernel_rfl) x;simp only[bP]at key;rw[show([104,116,116,112,115]:B8).contains (FP x)=true by grind]at key;simp only[bE,be,aw,au]at key;obtain⟨⟨⟨⟨⟨⟨k1,k2⟩,k3⟩,k4⟩,k5⟩,k6⟩,k7⟩:=key;refine⟨k1,k2,?_,?_,?_,?_,?_⟩<;>(rintro rfl;simp_all)
def AAq{c:UInt8}: ∀(pre t:B8),(∀x,x∈pre->x≠c)->Af c (pre++t)=(pre++(Af c t).1,(Af c t).2)
 |[],t,_=>rfl
 |x::pre,t,h=>by
  have ih:=AAq pre t λy hy=>h y (by grind);have AX:x≠c:=h x fI;have e1:(c==x)=false:=by grind
  have e2:(x !=c)=true:=by grind
  rw[bz];cases hc:(pre++t).contains c;·rw[TC (by rw[bC,e1,hc];rfl)];rw[TC hc]at ih;simp only[aA]at ih;obtain⟨i1,i2⟩:=ih;rw[bz,<-i1,<-i2]
  ·rw[Hf (by grind),bc,e2,bX,e2];rw[Hf hc]at ih;simp_all
def AyD{α:Type} (c:UInt8) (l:B8) (hb:l.length<=1000000) (k:B8×B8×Bool->Option α):((BK N l [c]).bind λy=>if(decide (y<(l.length:Int)))=true then(sub l (wr .i64 (y+1)) (l.length:Int)).bind λx7=>(sub l 0 y).bind λx8=>k (x8,x7,true)else k (l,[],false))=k (Af c l):=by
 have hw:(λx:UInt8=>!([c]:B8).contains x)=(λx=>x !=c):=by grind
 rw[PH l [c] fI fH,aa,hw];cases hc:l.contains c;·rw[UK l hc,aj fI,TC hc]
 ·have hlt:=QA hc;obtain⟨s1,s2⟩:=AIl hc hb;rw[OY,an hc]at s1 s2;have w0:wr .i64 (((l.takeWhile (· !=c)).length:Int)+0)=((l.takeWhile (· !=c)).length:Int):=by grind[Ai]
  rw[w0]at s1;rw[an (by grind),show((1:Int))=(([c]:B8).length:Int)from rfl,s2,aa,s1,aa,Hf hc]
def OU (r:B8):B8×B8×Bool:=if preB [47,47] r=true then((r.drop 2).dropWhile (· !=47),(r.drop 2).takeWhile (· !=47),true)else(r,[],false)
def ADv (a b:B8):ApiURI:=⟨a,(OU (Af 63 (Af 35 b).1).1).2.1,(OU (Af 63 (Af 35 b).1).1).1,(Af 63 (Af 35 b).1).2.1,(Af 35 b).2.1,true,(OU (Af 63 (Af 35 b).1).1).2.2,(Af 63 (Af 35 b).1).2.2,(Af 35 b).2.2⟩
def XK (k2:Unit->Option Bool): ∀(l:B8) (i:Int),(∀x,x∈l->Me x=true)->Df N k2 l i=k2 ()|[],i,_=>by rw[Df]|c::l,i,h=>by rw[Df];dsimp only[AB];rw[VJ,aa,h c fI,an rfl,aj fJ];exact XK k2 l (i+1) λx AX=>h x (by grind)
def AZC{a:B8} (h:SA a):LZ N a=some true:=by obtain⟨h5,hl⟩:=ZL h;unfold LZ;rw[AB,A9 fH,XK _ a 0 λx AX=>(hl x AX).1];cases a with|nil=>grind|cons _ _=>rfl
def Avu{p:UInt8->Bool}: ∀(a:B8){x:UInt8}{t:B8},(∀y,y∈a->p y=true)->p x=false->(a++x::t).takeWhile p=a|[],x,t,_,AX=>by rw[bm,bc,AX];rfl|y::a,x,t,h,AX=>by simp_all
def Ar9{a:B8} (h:SA a): ∀y,y∈a->(!([58,47]:B8).contains y)=true:=λy hy=>by obtain⟨_,_,_,_,k5,k6,_⟩:=(ZL h).2 y hy;grind
def AjG{α:Type}{d:JD Int} (r:B8) (hb:r.length<=1000000) (k:B8×B8×Bool->Option α):((strings_CutPrefix N r ([47,47]:B8)).bind λy24=>if y24.2=true then(strings_IndexByte N y24.1 47).bind λy26=>AA (λj28:Int=>(sub y24.1 0 j28).bind λx32=>(sub y24.1 j28 (y24.1.length:Int)).bind λx33=>k (x33,x32,true)) (λk29=>if(decide (y26<0))=true then k29 (y24.1.length:Int)else k29 y26) d else k (r,[],false))=k (OU r):=by
 rw[AJO,aa];unfold OU;by_cases h:preB [47,47] r=true
 ·rw[an h,an h];simp only[aB,ae,ap];rw[show(47:Int)=AJ 47 from rfl,MC,aa,OY,AB];generalize hq:r.drop (0+1+1)=q;have hql:q.length<=1000000:=by grind
  cases hc:q.contains 47
  ·have hd:q.dropWhile (· !=(47:UInt8))=[]:=by have e:=bl (p:=(· !=(47:UInt8))) (l:=q);rw[UK q hc]at e;simp_all
   simp only[aq,az];rw[an fJ,show(0:Int)=((0:Nat):Int)from rfl,A8 q 0 _ (aK _) (av _),aa,Be (av _),aa,UK q hc,hd];simp
  ·have hlt:=QA hc;simp only[aB];rw[aj fI,show(0:Int)=((0:Nat):Int)from rfl,A8 q 0 _ (aK _) fH,aa,Be fH,aa,aO,bB,HZ,LB]
 simp_all
def Atp{α:Type} (r:B8) (hb:r.length<=1000000) (k:B8×B8×Bool->Option α):((Er N r ([47,47]:B8)).bind λy36=>if y36=true then(sub r 2 (r.length:Int)).bind λx38=>(BK N x38 ([47]:B8)).bind λy39=>(sub r 2 (wr .i64 (2+y39))).bind λx41=>(sub r (wr .i64 (2+y39)) (r.length:Int)).bind λx42=>k (x42,x41,true)else k (r,[],false))=k (OU r):=by
 have hw:(λx:UInt8=>!([47]:B8).contains x)=(λx=>x !=47):=by grind
 rw[VC,aa];unfold OU;by_cases h:preB [47,47] r=true
 ·have hl:=QO h;simp only[ae,ap]at hl;have hle:=Sj (· !=(47:UInt8)) (r.drop 2);rw[aP]at hle;rw[an h,an h,show(2:Int)=((2:Nat):Int)from rfl,Be fH,aa,PH _ [47] fI (by grind),aa,hw];have e:wr .i64 (((2:Nat):Int)+(((r.drop 2).takeWhile (λx=>x !=47)).length:Int))=((2+((r.drop 2).takeWhile (λx=>x !=47)).length:Nat):Int):=by grind[Ai]
  rw[e,A8 r 2 _ fH fH,aa,Be fH,aa,show 2+((r.drop 2).takeWhile (λx=>x !=47)).length-2=((r.drop 2).takeWhile (λx=>x !=47)).length by omega,HZ,<-aT,LB]
 simp_all
def Att{c:UInt8}{a b:B8} (h: ∀x,x∈a->x≠c) (hc:(58:UInt8)≠c):Af c (a++58::b)=(a++58::(Af c b).1,(Af c b).2):=by
 rw[show a++58::b=(a++[58])++b by simp,AAq (a++[58]) b (by
  intro x AX;simp only[aZ,aM,dw,eF]at AX;rcases AX with AX|rfl;·exact h x AX
  ·exact hc)];simp
def Aq9{a b:B8} (h:SA a) (hb:(a++58::b).length<=16384) (hN:20000<=N):MV N (a++58::b)=some (ADv a b,0):=by
 obtain⟨h5,hl⟩:=ZL h;simp only[ah,ae]at hb;have hc1:=JY 35 b;have hc2:=JY 63 (Af 35 b).1;unfold MV ADv;rw[aj (by simp only[ah,ae,au];omega),RJ 35 _ (by grind),aa,Att (c:=35) (λx AX=>(hl x AX).2.2.1) fJ,RJ 63 _ (by grind),aa,Att (c:=63) (λx AX=>(hl x AX).2.2.2.1) fJ];dsimp only;generalize (Af 63 (Af 35 b).1)=d at *;obtain⟨r,q,hq⟩:=d;dsimp only at *;have hset:=Ar9 h;have htw:((a++58::r).takeWhile λc=>!([58,47]:B8).contains c)=a:=Avu a hset fJ;have hany:(a++58::r).any ([58,47]:B8).contains=true:=fI;refine(Je (a:=(r,a,true)) λk=>?_).trans ?_;·rw[ZK fJ fJ fJ (by grind) (by grind) fH,aa];unfold AAc;rw[an hany,htw];have hget:(a++58::r)[a.length]?=some 58:=fI;dsimp only[AB];rw[an fI,Ea,hget,aa,an fJ,show(0:Int)=((0:Nat):Int)from rfl,A8 _ 0 _ (aK _) fI,aa,aO,bB,eG,AZC h,aa,an rfl,show wr .i64 ((a.length:Int)+1)=((a.length+1:Nat):Int) by grind[Ai],Be fI,aa];simp
 ·dsimp only;refine(Je (a:=OU r) λk=>AjG r fH k).trans ?_;rfl
def Ac8 (c:UInt8):Bool:=([43,45,46]:B8).contains c
def AYU (c:UInt8):Bool:=Me c||(GH c||Ac8 c)
def ADZ:B8->Bool|[]=>false|c::t=>Me c&&t.all AYU
def Nu (c:UInt8):Bool:=!([58,47]:B8).contains c
def AFi (set:B8): ∀l:B8,l.any set.contains=!((l.dropWhile λc=>!set.contains c)==[])
 |[]=>rfl
 |c::l=>by
  rw[bT,bX];cases h:set.contains c;·rw[be,AFi set l];rfl
  ·simp
def AEF (d:B8):Option (B8×B8):=if(d.dropWhile Nu).head?=some 58 then some (d.takeWhile Nu,(d.dropWhile Nu).drop 1)else none
def Abd:ApiURI:=⟨[],[],[],[],[],false,false,false,false⟩
def usT (s:B8) (a:B8) (h:Bool) (d:B8):ApiURI:=⟨a,(OU d).2.1,(OU d).1,(Af 63 (Af 35 s).1).2.1,(Af 35 s).2.1,h,(OU d).2.2,(Af 63 (Af 35 s).1).2.2,(Af 35 s).2.2⟩
def NR (s:B8):ApiURI×Int:=if s.length>16384 then(Abd,5)else match AEF (Af 63 (Af 35 s).1).1 with|none=>(usT s [] false (Af 63 (Af 35 s).1).1,0)|some (a,r)=>if ADZ a=true then(usT s a true r,0)else(Abd,6)
def AyO (c:UInt8):decide (Go.Lib.indexByte ([43,45,46]:B8) c<0)=!Ac8 c:=by grind[Ac8,Go.Lib.indexByte]
def AEV (k2:Unit->Option Bool): ∀(l:B8) (i:Int),1<=i->Df N k2 l i=if l.all AYU=true then k2 ()else some false
 |[],i,_=>by grind[Df]
 | c::l,i,h=>by
  have ih:=AEV k2 l (i+1) fH;have h0:(i==0)=false:=by grind
  rw[Df];dsimp only[AB];rw[VJ,aa,aQ];unfold AYU at *;cases Me c
  ·rw[aj fJ,h0,aj fJ,YQ,aa];cases GH c;·rw[aj fJ,MC,aa,AyO];cases Ac8 c<;>simp_all[Ac8]
   simp_all
  simp_all
def Asz{a:B8} (hb:a.length<=1000000):LZ N a=some (ADZ a):=by
 unfold LZ ADZ;rw[AB,A9 fH];cases a with
 |nil=>grind[Df]
 |cons c t=>
  rw[Df];dsimp only[AB];rw[VJ,aa];cases Me c;·rfl
  ·rw[an rfl,aj fJ,AEV _ t _ fH];cases t.all AYU<;>rfl
def AFO (k2:Unit->Option Bool): ∀(l:B8) (i:Int),1<=i->EB N k2 l i=if l.all AYU=true then k2 ()else some false
 |[],i,_=>by grind[EB]
 | c::l,i,h=>by
  have ih:=AFO k2 l (i+1) fH;have h0:(i==0)=false:=by grind
  rw[EB];dsimp only[AB];rw[U6,aa,aQ];unfold AYU at *;cases Me c
  ·rw[aj fJ,h0,aj fJ,VO,aa];cases GH c
   ·rw[aj fJ,ACt _ _ fJ,aa];unfold Ac8;cases ([43,45,46]:B8).contains c;·rfl
    ·rw[aj fJ,ih];rfl
   simp_all
  simp_all
def AtG{a:B8} (hb:a.length<=1000000):MW N a=some (ADZ a):=by
 unfold MW ADZ;rw[AB,A9 fH];cases a with
 |nil=>grind[EB]
 |cons c t=>
  rw[EB];dsimp only[AB];rw[U6,aa];cases Me c;·rfl
  ·rw[an rfl,aj fJ,AFO _ t _ fH];cases t.all AYU<;>rfl
def Zk{α:Type} (d:B8) (e:Option α) (k:B8×B8×Bool->Option α):Option α:=match AEF d with|none=>k (d,[],false)|some (a,r)=>if ADZ a=true then k (r,a,true)else e
def UJ (d:B8):d.takeWhile Nu++d.dropWhile Nu=d:=bl
theorem AeK{α:Type}{d:B8} (hb:d.length<=1000000) (hN:20<=N) (e:Option α) (k:B8×B8×Bool->Option α){D:JD Bool}:((strings_IndexAny N d ([58,47]:B8)).bind λy9=>AA (λj11:Bool=>if j11=true then(sub d 0 y9).bind λx16=>(LZ N x16).bind λy17=>if y17=true then(sub d (wr .i64 (y9+1)) (d.length:Int)).bind λx19=>k (x19,x16,true)else e else k (d,[],false)) (λk12=>if(decide (y9>=0))=true then(idx d y9).bind λx15=>k12 ((AJ x15)==58)else k12 false) D)=Zk d e k:=by
 rw[Afr hb hN,aa];dsimp only[AB];unfold AAc Zk AEF;rw[AFi];change _=_;have hw:(d.takeWhile λc=>!([58,47]:B8).contains c)=d.takeWhile Nu:=rfl;have hd:(d.dropWhile λc=>!([58,47]:B8).contains c)=d.dropWhile Nu:=rfl;rw[hw,hd];have hs:=UJ d;cases AX:d.dropWhile Nu with
 |nil=>rfl
 | cons c t=>
  have hlen:d.length=(d.takeWhile Nu).length+(t.length+1):=by have:=br List.length hs;grind
  have hget:d[(d.takeWhile Nu).length]?=some c:=by grind
  rw[show(!((c::t)==([]:B8)))=true from rfl,an rfl,an fI,Ea,hget,aa,List.head?_cons];by_cases h:c=58
  ·subst h;rw[an fJ,an rfl,show(0:Int)=((0:Nat):Int)from rfl,A8 _ 0 _ (aK _) fH,aa,aO,bB,HZ,Asz fH,aa];dsimp only;cases ADZ (d.takeWhile Nu);·rfl
   ·rw[an rfl,an rfl,show wr .i64 (((d.takeWhile Nu).length:Int)+1)=(((d.takeWhile Nu).length+1:Nat):Int) by grind[Ai],Be fH,aa,<-aT,LB,AX]
  ·have hb':((AJ c)==58)=false:=by rw[show(58:Int)=AJ 58 from rfl,AmR];grind
   simp_all
theorem Aei{α:Type}{d:B8} (hb:d.length<=1000000) (e:Option α) (k:B8×B8×Bool->Option α){D:JD Bool}:((BK N d ([58,47]:B8)).bind λy9=>AA (λj11:Bool=>if j11=true then(sub d 0 y9).bind λx16=>(MW N x16).bind λy17=>if y17=true then(sub d (wr .i64 (y9+1)) (d.length:Int)).bind λx19=>k (x19,x16,true)else e else k (d,[],false)) (λk12=>if(decide (y9<(d.length:Int)))=true then(idx d y9).bind λx15=>k12 ((AJ x15)==58)else k12 false) D)=Zk d e k:=by
 rw[PH _ _ fJ fH,aa];dsimp only[AB];unfold Zk AEF;have hw:(d.takeWhile λc=>!([58,47]:B8).contains c)=d.takeWhile Nu:=rfl;rw[hw];have hs:=UJ d;cases AX:d.dropWhile Nu with
 |nil=>simp_all
 | cons c t=>
  have hlen:d.length=(d.takeWhile Nu).length+(t.length+1):=by have:=br List.length hs;grind
  have hget:d[(d.takeWhile Nu).length]?=some c:=by grind
  rw[an (by grind),Ea,hget,aa,List.head?_cons];by_cases h:c=58
  ·subst h;rw[an fJ,an rfl,show(0:Int)=((0:Nat):Int)from rfl,A8 _ 0 _ (aK _) fH,aa,aO,bB,HZ,AtG fH,aa];dsimp only;cases ADZ (d.takeWhile Nu);·rfl
   ·rw[an rfl,an rfl,show wr .i64 (((d.takeWhile Nu).length:Int)+1)=(((d.takeWhile Nu).length+1:Nat):Int) by grind[Ai],Be fH,aa,<-aT,LB,AX]
  ·have hb':((AJ c)==58)=false:=by rw[show(58:Int)=AJ 58 from rfl,AmR];grind
   simp_all
def ATh{α β:Type}{K:α->Option β}{body:(α->Option β)->Option β}{d:JD α}{X:(α->Option β)->Option β} (h: ∀k:α->Option β,body k=X k):AA K body d=X K:=h K
def Tc (s:B8) (hb:s.length<=1000000) (hN:20<=N):MV N s=some (NR s):=by
 have hc1:=JY 35 s;have hc2:=JY 63 (Af 35 s).1;unfold MV NR;by_cases h:s.length>16384;·rw[an (by grind),an h];rfl
 rw[aj (by grind),aj h,RJ 35 _ fH,aa,RJ 63 _ fH,aa];generalize hd:(Af 63 (Af 35 s).1).1=d at *;refine(ATh (X:=λk=>Zk d (some (Abd,6)) k) λk=>AeK fH hN _ k).trans ?_;unfold Zk;cases hcol:AEF d with
 |none=>dsimp only;refine(Je (a:=OU d) λk=>AjG d fH k).trans ?_;rfl
 | some p=>
  obtain⟨a,r⟩:=p;dsimp only;cases ADZ a;·rfl
  ·have hr:r.length<=d.length:=by
    unfold AEF at hcol;split at hcol;·cases hcol;have:=br List.length (UJ d);grind
    grind
   rw[an rfl,an rfl];refine(Je (a:=OU r) λk=>AjG r fH k).trans ?_;rfl
def WV (s:B8) (hb:s.length<=1000000):LK N s=some (NR s):=by
 have hc1:=JY 35 s;have hc2:=JY 63 (Af 35 s).1;unfold LK NR;by_cases h:s.length>16384;·rw[an (by grind),an h];rfl
 rw[aj (by grind),aj h];refine(Je (a:=Af 35 s) λk=>AyD 35 _ fH k).trans ?_;refine(Je (a:=Af 63 (Af 35 s).1) λk=>AyD 63 _ fH k).trans ?_;generalize hd:(Af 63 (Af 35 s).1).1=d at *;refine(ATh (X:=λk=>Zk d (some (Abd,6)) k) λk=>Aei fH _ k).trans ?_;unfold Zk;cases hcol:AEF d with
 |none=>dsimp only;refine(Je (a:=OU d) λk=>Atp d fH k).trans ?_;rfl
 | some p=>
  obtain⟨a,r⟩:=p;dsimp only;cases ADZ a;·rfl
  ·have hr:r.length<=d.length:=by
    unfold AEF at hcol;split at hcol;·cases hcol;have:=br List.length (UJ d);grind
    grind
   rw[an rfl,an rfl];refine(Je (a:=OU r) λk=>Atp r fH k).trans ?_;rfl
def AFB (k4:Unit->Option Bool): ∀ps:List B8,(∀p,p∈ps->p.length<=2^60)->Gw N k4 ps=if(ps.all λp=>(Dp 255 p).2==0)=true then k4 ()else some false|[],_=>by grind[Gw]|p::ps,h=>by rw[Gw,show(255:Int)=((255:Nat):Int)from rfl,WW fJ p (h p fI),aa,AFB k4 ps λq hq=>h q (by grind),aQ];cases hx:((Dp 255 p).2==0)<;>simp[bne,hx]
def Ar3 (l:B8) (hb:l.length<=1000000):Pz N l=some (ARS l):=by
 have hl:=IZ 46 l;have hp:=JO 46 l;unfold Pz;rw[U7 l 46 hb,aa];dsimp only[AB];rw[A9 fH,AFB _ _ λp h=>by grind];unfold ARS;have e:(((AV 46 l).length:Int) !=4)=!decide ((AV 46 l).length=4):=by grind
 rw[e];cases decide ((AV 46 l).length=4)<;>cases ((AV 46 l).all λp=>(Dp 255 p).2==0)<;>simp
def Amr (l:B8) (hN:300<=N):SE N l=some (Ow l):=by
 unfold SE Ow;by_cases h:l=[];·grind
 rw[aj (by grind),aj h];by_cases h2:l.length>253;·rw[an (by simp only[au];omega),an h2]
 rw[aj (by simp only[au];omega),aj h2];dsimp only[AB];rw[Ar3 l fH,aa,AkP l fH fH,aa,lower_eq l fH,aa];cases ARS l<;>cases Ud l<;>rfl
def AkQ (l:B8) (hN:300<=N) (hb:l.length<=1000000):Oy N l=some (hpS l):=by
 have hle:=JY 58 l;unfold Oy hpS;rw[RJ 58 l fH,aa,Amr _ hN,aa];dsimp only[AB];rw[AnM _ fH,aa];by_cases h:((Ow (Af 58 l).1).2 !=0)=true;·grind
 ·rw[aj h,aj h];cases (Af 58 l).2.2;·rfl
  ·simp only[aB];by_cases hp:((Ti (Af 58 l).2.1).2 !=0)=true;·simp_all
   ·rw[aj hp,aj hp];split<;>rfl
def RI (p:Int):Prop:=0<=p/\p<=65535
theorem Al6 (l:B8):RI (Ti l).1:=by grind[Uz,Ti,RI]
theorem AO3 (l:B8):RI (hpS l).1.port:=by grind[Al6,Af,hpS,RI]
theorem AfY (l:B8):(Ow l).1.length<=253:=by grind[Ow]
theorem AAz (l:B8):(hpS l).1.host.length<=253:=by grind[AfY,Af,hpS]
def hpF (h:B8) (p:Int):B8:=if p=0 then h else h++[58]++fmtS p.toNat
def YT (h:B8) (p:Int):(hpF h p).length<=h.length+21:=by grind[SV,hpF]
def Aps (h:B8) (p:Int) (hp:RI p) (hb:h.length<=1000000) (hN:20<=N):Pb N ⟨h,p⟩=some (hpF h p):=by
 have hl:=SV p.toNat;obtain⟨h1,h2⟩:=hp;unfold Pb hpF;by_cases h0:p=0;·simp_all
 ·rw[aj (by grind),aj h0,aj (by grind)];have e:wr .u64 p=((p.toNat:Nat):Int):=by rw[FV fH];omega
  simp only[e];rw[ABQ p.toNat fH hN,aa,A9 fK,A9 fK]
def AsI (h:B8) (p:Int) (hp:RI p) (hb:h.length<=1000000) (hN:20<=N):OP N ⟨h,p⟩=some (hpF h p):=by
 have hl:=SV p.toNat;obtain⟨h1,h2⟩:=hp;unfold OP Bi hpF;by_cases h0:p=0;·simp_all
 ·rw[aj (by grind),aj h0];have e:wr .u64 p=((p.toNat:Nat):Int):=by grind[FV]
  simp only[e];rw[aj (by grind),ABv p.toNat fH hN,aa,aa,A9 (by grind),A9 (by grind)]
end
end Go.VM
