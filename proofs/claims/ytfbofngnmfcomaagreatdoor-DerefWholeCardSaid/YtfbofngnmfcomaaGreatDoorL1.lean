import GoSem.Claim
import Derived.Test.YtfbofngnmfcomaaGreatDoorDefs
import Derived.KernelRfl
set_option linter.defProp false
set_option linter.unusedVariables false
set_option linter.unusedSimpArgs false
namespace Go.VM
theorem Aq{n:Int} (h: -9223372036854775808<=n/\n<=9223372036854775807):wr .i64 n=n:=by grind[wr,IntKind.wrap,IntKind.bits,IntKind.signed]
def Ei{α:Type} (l:List α) (n:Nat):idx l (n:Int)=l[n]?:=by simp[idx]
theorem Uh{α:Type} (pre suf:List α) (x:α):idx (pre++x::suf) (pre.length:Int)=some x:=by simp[idx]
def Aj5{α:Type} (pre:List α) (x:α):(pre.length:Int)+1=((pre++[x]).length:Int):=fy
def AYy{α:Type} (l:List α):sub l 0 (l.length:Int)=some l:=by simp[sub]
def Av{α:Type} (l:List α) (a b:Nat) (h1:a<=b) (h2:b<=l.length):sub l (a:Int) (b:Int)=some ((l.drop a).take (b-a)):=by grind[sub]
theorem AU{α:Type}{c:Prop} [Decidable c]{x:Option α} (h:c):grd c x=x:=by grind[grd]
def AXT{n b:Nat} (h:n<=1000000) (hb:b<=100000):Ac n b:=by unfold Ac;have:n * b<=1000000 * 100000:=fj h hb;omega
def AvK{α:Type}{n b:Nat}{x:Option α} (h:n<=1000000) (hb:b<=100000):grd (Ac n b) x=x:=AU (AXT h hb)
theorem BU{α:Type}{n:Nat}{x:Option α} (h:n<=4611686018427387904):grd (AL n) x=x:=AU h
theorem AC{α β:Type} (k:α->Option β) (body:(α->Option β)->Option β){d:JD α}:AA k body d=body k:=rfl
def wf_u8{n:Int} (h:(Lit.int .u8 n).wf=true):0<=n/\n<=255:=by simp only[Lit.wf,av,aw]at h;have e1:IntKind.u8.min=0:=fA;have e2:IntKind.u8.max=255:=fA;omega
end Go.VM
namespace Go.VM
def Ok{α:Type} (x:Option α) (P:α->Prop):Prop:= ∃a,x=some a/\P a
section
variable{α β:Type}{P:α->Prop}{Q:β->Prop}
def Ok.ret{a:α} (h:P a):Ok (some a) P:=⟨a,rfl,h⟩
def Ok.bind{x:Option β}{f:β->Option α} (h:Ok x Q) (k: ∀b,Q b->Ok (f b) P):Ok (Option.bind x f) P:=by obtain⟨b,rfl,hb⟩:=h;grind
def Ok.ite{c:Bool}{x y:Option α} (h1:c=true->Ok x P) (h2:c=false->Ok y P):Ok (if c=true then x else y) P:=by
 cases c;·simpa using h2 rfl
 ·simpa using h1 rfl
theorem Ok.grd{c:Prop} [Decidable c]{x:Option α} (hc:c) (h:Ok x P):Ok (grd c x) P:=by grind[AU]
def Ok.meet (J:β->Prop){k:β->Option α}{body:(β->Option α)->Option α}{d:JD β} (hk: ∀b,J b->Ok (k b) P) (hb: ∀k':β->Option α,(∀b,J b->Ok (k' b) P)->Ok (body k') P):Ok (AA k body d) P:=hb k hk
def Ok.letL{x:β}{f:β->Option α} (h:Ok (f x) P):Ok (letL x f) P:=h
def Ok.mono{x:Option α}{P':α->Prop} (h:Ok x P) (k: ∀a,P a->P' a):Ok x P':=by obtain⟨a,e,ha⟩:=h;exact⟨a,e,k a ha⟩
theorem Ok.idx{l:List α}{i:Int} (h0:0<=i) (h1:i<l.length):Ok (idx l i) (λx=>l[i.toNat]?=some x):=by have:i.toNat<l.length:=fx;exact⟨l[i.toNat],by grind[VM.idx],aQ this⟩
end
end Go.VM
namespace Go.VM
section
variable{N:Nat}
def Gb (d:MadeDice):Prop:=(∀a,a∈d.l->0<=a/\a<=255)/\d.l.length<=1000
def WJ{d:MadeDice} (hd:Gb d){n:Nat} (h1:1<=n):Ok (Aj N d (n:Int)) λr=>(0<=r.1/\r.1<n)/\Gb r.2:=by
 unfold Aj;have hz:Ok (some ((0:Int),d)) λr=>(0<=r.1/\r.1<n)/\Gb r.2:=.ret ⟨⟨br _,by dsimp only;omega⟩,hd⟩;dsimp only[AC];cases hq:d.l with
 |nil=>exact hz
 |cons a t=>
  have hl:=hd.2;rw[hq]at hl;simp only[ag]at hl;obtain⟨a1,a2⟩:=hd.1 a (by rw[hq];simp);rw[an fB];refine Ok.ite (λ_=>hz) λ_=>?_;have e1:sub (a::t) 1 ((a::t).length:Int)=some t:=by rw[show(1:Int)=((1:Nat):Int)from rfl,Av _ 1 _ fy (au _)];simp
  rw[show idx (a::t) 0=some a from rfl,aa,e1,aa,Aq fx];refine .grd fx (.ret ⟨⟨?_,?_⟩,λb hb=>hd.1 b (by rw[hq];simp[hb]),by dsimp only;omega⟩);·exact Int.tmod_nonneg _ a1
  ·exact Int.tmod_lt_of_pos _ fx
def oneG{d:MadeDice} (hd:Gb d){l:List B8} (h1:1<=l.length):Ok (DJ N d l) λr=>r.1∈l/\Gb r.2:=by unfold DJ;refine .bind (WJ hd h1) λy ⟨⟨y1,y2⟩,y3⟩=>?_;exact .bind (Ok.idx y1 y2) λx hx=>.ret ⟨List.mem_of_getElem? hx,y3⟩
def Avr{α:Type}{n:Nat}{x:Option α}{P:α->Prop} (h:n<=1000000) (hx:Ok x P):Ok (grd (AL n) x) P:=by rw[BU fx];exact hx
def Awm (a0:List Int) (h: ∀a,a∈a0->0<=a/\a<=255):Ok (Rl N a0) Gb:=by
 unfold Rl;have e:(if 200<(a0.length:Int)then 200 else(a0.length:Int))=((min 200 a0.length:Nat):Int):=by split<;>omega
 rw[e,show(0:Int)=((0:Nat):Int)from rfl,Av _ 0 _ (aJ _) fx,aa];refine .ret ⟨λa ha=>h a ?_,?_⟩;·exact cL (di ha)
 ·simp only[ba,aN];omega
end
end Go.VM
namespace Go.VM
theorem MI (c:UInt8):AJ c=(c.toNat:Int):=rfl
theorem Ra (c:UInt8):FX (AJ c)=c:=by simp[FX,AJ]
theorem toNat_ofNat{n:Nat} (h:n<256):(UInt8.ofNat n).toNat=n:=by simp_all
theorem AQG{n:Int} (h:0<=n/\n<256):wr .u8 n=n:=by grind[wr,IntKind.wrap,IntKind.bits,IntKind.signed]
theorem Fx{n:Int} (h:0<=n/\n<18446744073709551616):wr .u64 n=n:=by grind[wr,IntKind.wrap,IntKind.bits,IntKind.signed]
def ATp{n:Nat}:wr .u8 (n:Int)=((n % 256:Nat):Int):=by grind[wr,IntKind.wrap,IntKind.bits,IntKind.signed]
end Go.VM
namespace Go.VM
section
variable{N:Nat}
end
end Go.VM
namespace Go.VM
section
variable{N:Nat}
def P7{α:Type}{l t:List α}{x:α}{i j:Nat} (h:l.drop i=t) (hx:t[j]?=some x):idx l ((i+j:Nat):Int)=some x:=by rw[Ei,<-bU,h,hx]
def Ru{α:Type}{l t:List α}{i:Nat} (h:l.drop i=t) (hi:i<=l.length):l.length=i+t.length:=by have:=bu List.length h;grind
section
variable{l t:B8}{i:Nat}{k13:Int->Option (Int×Int×Int)}
end
end
end Go.VM
namespace Go.VM
section
variable{N:Nat}
end
end Go.VM
namespace Go.VM
section
variable{N:Nat}
def Cq{α:Type} [DecidableEq α]{f g:Nat->α} (h:(List.range 256).all (λn=>decide (f n=g n))=true) (c:UInt8):f c.toNat=g c.toNat:=by have:=aU.1 h c.toNat (dj.2 c.toNat_lt);grind
def Tz (n:Nat):Bool:=(decide (48<=n)&&decide (n<=57))||(decide (65<=n)&&decide (n<=70))||(decide (97<=n)&&decide (n<=102))
def Lr (c:UInt8):Bool:=Tz c.toNat
def Fp (n:Nat):Nat:=if n<=57 then n-48 else if n<=70 then n-55 else n-87
def Uc (c:UInt8) (h:Lr c=true):Fp c.toNat<16:=by simp only[Lr,Tz,cK,av,aw]at h;unfold Fp;split<;>(grind)<;>omega
def Zd (c:UInt8):JY N (AJ c)=some (Lr c):=Cq (f:=λn=>JY N (n:Int)) (g:=λn=>some (Tz n)) (by kernel_rfl) c
def Zi (c:UInt8):Ic N (AJ c)=some (Lr c):=Cq (f:=λn=>Ic N (n:Int)) (g:=λn=>some (Tz n)) (by kernel_rfl) c
def AX7 (c:UInt8) (h:Lr c=true):LW N (AJ c)=some ((Fp c.toNat:Nat):Int):=by have:=Cq (f:=λn=>if Tz n=true then LW N (n:Int)else none) (g:=λn=>if Tz n=true then some ((Fp n:Nat):Int)else none) (by kernel_rfl) c;simp only[show Tz c.toNat=true from h,aD]at this;exact this
def Aok (c:UInt8) (h:Lr c=true):(if decide (AJ c>57)=true then wr .u64 (wr .u64 (wr .u64 (O9 .u8 (AJ c) 32)-97)+10)else wr .u64 (wr .u8 (AJ c-48)))=((Fp c.toNat:Nat):Int):=by have:=Cq (f:=λn=>if Tz n=true then(if decide ((n:Int)>57)=true then wr .u64 (wr .u64 (wr .u64 (O9 .u8 (n:Int) 32)-97)+10)else wr .u64 (wr .u8 ((n:Int)-48)))else 0) (g:=λn=>if Tz n=true then((Fp n:Nat):Int)else 0) (by kernel_rfl) c;simp only[show Tz c.toNat=true from h,aD]at this;exact this
def VA (n:Nat):B8->Nat|[]=>n|c::l=>VA (n * 16+Fp c.toNat) l
def ArA (k2:Unit->Option (Int×Int)): ∀l:B8,BL N k2 l=if l.all Lr=true then k2 ()else some (0,1)|[]=>by rw[BL];rfl|c::l=>by rw[BL,Zd,aa,ArA k2 l];cases h:Lr c<;>simp[h]
def Aqw (k2:Unit->Option (Int×Int)): ∀l:B8,Df N 16 k2 l=if l.all Lr=true then k2 ()else some (0,1)|[]=>by grind[Df]|c::l=>by rw[Df,AC,show((16:Int)==10)=false from rfl,show((16:Int)==16)=true from rfl];simp only[aj,aA,aD];rw[Zi,aa,Aqw k2 l];cases h:Lr c<;>simp[h]
end
end Go.VM
namespace Go.VM
section
variable{N:Nat}
end
end Go.VM
namespace Go.VM
section
variable{N:Nat}
section
variable{l:B8}
end
end
end Go.VM
namespace Go.VM
section
variable{N:Nat}
def Ho{α:Type} (p:α->Bool) (t:List α):t.take (t.takeWhile p).length=t.takeWhile p:=(eS.1 (List.takeWhile_prefix p)).symm
theorem Ri{α:Type} (p:α->Bool) (t:List α):(t.takeWhile p).length<=t.length:=(List.takeWhile_sublist p).length_le
def Gu (c:UInt8):Bool:=decide (48<=c.toNat)&&decide (c.toNat<=57)
def AAA (n:Nat):Bool:=(decide (65<=n)&&decide (n<=90))||(decide (97<=n)&&decide (n<=122))
def NR (c:UInt8):Bool:=AAA c.toNat
def Zc (c:UInt8):Cg N (AJ c)=some (Gu c):=Cq (f:=λn=>Cg N (n:Int)) (g:=λn=>some (decide (48<=n)&&decide (n<=57))) (by kernel_rfl) c
def Zg (c:UInt8):CV N (AJ c)=some (Gu c):=Cq (f:=λn=>CV N (n:Int)) (g:=λn=>some (decide (48<=n)&&decide (n<=57))) (by kernel_rfl) c
def UY (c:UInt8):GG N (AJ c)=some (NR c):=Cq (f:=λn=>GG N (n:Int)) (g:=λn=>some (AAA n)) (by kernel_rfl) c
def YI (c:UInt8):Eo N (AJ c)=some (NR c):=Cq (f:=λn=>Eo N (n:Int)) (g:=λn=>some (AAA n)) (by kernel_rfl) c
def AR3 (c:UInt8) (k2:Unit->Option Bool) (h:k2 ()=some false): ∀l:B8,Jb N (AJ c) k2 l=some (l.contains c)
 |[]=>by grind[Jb]
 | x::l=>by
  rw[Jb,AR3 c k2 h l,bC];by_cases e:x=c;·grind
  ·have e1: ¬c=x:=λh=>e h.symm;have:(AJ x==AJ c)=false:=by have: ¬x.toNat=c.toNat:=λh=>e (dC.1 h);simp only[AJ,bw,eN];omega
   grind
def AXK (c:UInt8) (l:B8) (h:l.length<=1000):GV N (AJ c) l=some (l.contains c):=by unfold GV;rw[AC,BU fx];exact AR3 c _ rfl l
def NA (l:B8) (c:UInt8):strings_IndexByte N l (AJ c)=some (Go.Lib.indexByte l c):=by grind[strings_IndexByte,Dy,Ra]
section
variable{l:B8}
variable{t:B8}{i:Nat}
end
end
end Go.VM
namespace Go.VM
section
variable{N:Nat}
def JA{α β:Type}{K:α->Option β}{body:(α->Option β)->Option β}{a:α}{d:JD α} (h: ∀k:α->Option β,body k=k a):AA K body d=K a:=h K
end
end Go.VM
namespace Go.VM
section
variable{N:Nat}
def O7: ∀(l:B8) (c:UInt8),Go.Lib.indexByte l c=if l.contains c=true then(((l.takeWhile (· !=c)).length:Nat):Int)else-1
 |[],c=>rfl
 | x::l,c=>by
  have ih:=O7 l c;rw[Go.Lib.indexByte,bC];by_cases e:x=c;·simp_all
  ·have e1:(c==x)=false:=by grind
   simp_all
def Ke{α:Type} (p:α->Bool) (l:List α):l.drop (l.takeWhile p).length=l.dropWhile p:=by
 have:=bA (p:=p) (l:=l);conv=>lhs;rw[<-this]
 rw[co,bI fy,this];simp
def BI (c:UInt8) (l:B8):B8×B8×Bool:=if l.contains c=true then(l.takeWhile (· !=c),(l.dropWhile (· !=c)).drop 1,true)else(l,[],false)
theorem RX{c:UInt8}: ∀ {l:B8},l.contains c=true->(l.takeWhile (· !=c)).length<l.length
 |[],h=>by cases h
 | x::l,h=>by
  rw[bb];by_cases e:x=c;·grind
  ·have e3:(x !=c)=true:=by grind
   rw[bC]at h;have e1:(c==x)=false:=by grind
   rw[e1,bg]at h;rw[e3];have:=RX h;simp_all
def SK (c:UInt8) (l:B8) (hb:l.length<=2^60):strings_Cut N l [c]=some (BI c l):=by
 unfold strings_Cut EI Az BI;have hI:(if((([c]:B8).length:Int)==1)=true then some (Go.Lib.indexByte l (([c]:B8).headD 0))else grd (l.length<4294967281) (some (Go.Lib.index l [c])))=some (Go.Lib.indexByte l c):=aq (by rfl);rw[hI,aa,O7];by_cases h:l.contains c=true
 ·have hlt:=RX h;simp only[h,aD];generalize hn:(l.takeWhile (· !=c)).length=n at *;have w:wr .i64 ((n:Int)+(([c]:B8).length:Int))=((n+1:Nat):Int):=by grind[Aq]
  rw[aq fy,show(0:Int)=((0:Nat):Int)from rfl,Av l 0 n fx fx,aa,w,Av l (n+1) l.length fx fx,aa,aa];rw[aL,bo,<-hn,Ho,aZ fy,<-aY,Ke]
 simp_all
def Mj (c:UInt8) (l:B8):(BI c l).1.length<=l.length/\(BI c l).2.1.length<=l.length:=by grind[BI,Ri,List.dropWhile_sublist,List.length_drop]
def AAJ (x c:UInt8):(AJ x==AJ c)=(x==c):=by
 by_cases h:x=c;·grind
 ·have: ¬x.toNat=c.toNat:=λe=>h (dC.1 e);have h2:(x==c)=false:=by grind
  rw[h2];simp only[AJ,bw,eN];omega
def AO7{α:Type} (x:α) (l:List α):sub (x::l) 1 (((x::l).length:Nat):Int)=some l:=by have:=Av (x::l) 1 (x::l).length fy (au _);simp_all
def YZ (p:UInt8->Bool) (l:B8):B8:=(l.reverse.dropWhile p).reverse
def Zp (p:UInt8->Bool) (l:B8) (x:UInt8):YZ p (l++[x])=if p x=true then YZ p l else l++[x]:=by unfold YZ;rw[List.reverse_append,List.reverse_cons,List.reverse_nil,bk,ff,bZ];split<;>simp
def AjQ (p:UInt8->Bool) (l:B8):(YZ p l).length<=l.length:=by grind[YZ,List.dropWhile_sublist]
def ASq{α:Type} (l:List α) (x:α) (hb:l.length<=2^60):sub (l++[x]) 0 (wr .i64 ((((l++[x]).length:Nat):Int)-1))=some l:=by rw[Aq (by grind),show(((l++[x]).length:Nat):Int)-1=(l.length:Int) by simp,show(0:Int)=((0:Nat):Int)from rfl,Av _ 0 l.length fx fy];simp
def AR5{α:Type} (l:List α) (x:α) (hb:l.length<=2^60):idx (l++[x]) (wr .i64 ((((l++[x]).length:Nat):Int)-1))=some x:=by rw[Aq (by grind),show(((l++[x]).length:Nat):Int)-1=(l.length:Int) by simp,Ei];simp
def ARW (as:List Bool) (set:B8):Prop:=as.length=256/\ ∀c:UInt8,as[c.toNat]?=some (set.contains c)
def AQ9 (k2:List Bool->Option (List Bool×Bool)) (done:B8): ∀(l:B8) (done:B8) (bn:List Bool),(∀c∈l,c.toNat<128)->ARW bn done->∃as,CS N k2 l bn=k2 as/\ARW as (done++l)
 |[],done,bn,hl,hs=>⟨bn,by rw[CS],by grind⟩
 | x::l,done,bn,hl,hs=>by
  have hx:=hl x fy;have c1: ¬AJ x>=128:=by grind[AJ]
  obtain⟨as,h1,h2⟩:=AQ9 k2 done l (done++[x]) (bn.set x.toNat true) (λc hc=>hl c (by grind)) ⟨by simp[hs.1],λc=>by
   rw[dh];by_cases e:x.toNat=c.toNat;·have:x=c:=dC.1 e;subst this;rw[aq rfl,aq (by rw[hs.1];omega)];simp
   ·rw[an e,hs.2 c];grind⟩;refine⟨as,?_,by grind⟩;rw[CS,an (by grind),AU (by grind[AJ]),AU (by rw[hs.1];omega)];exact h1
def Alu (set:B8) (hl: ∀c∈set,c.toNat<128) (hb:set.length<=1000): ∃as,strings_makeASCIISet N set=some (as,true)/\ARW as set:=by unfold strings_makeASCIISet;rw[AC,AU (by grind[AL])];obtain⟨as,h1,h2⟩:=AQ9 (N:=N) (λj1=>grd (j1.length=256) (some (j1,true))) [] set [] (AMr 256) hl ⟨AAq,λc=>by have:=c.toNat_lt;rw[AMr,List.getElem?_replicate,aq fx];rfl⟩;exact⟨as,by rw[h1,AU h2.1],h2⟩
def AO6{as:List Bool}{set:B8} (h:ARW as set) (c:UInt8):D6 N as (AJ c)=some (set.contains c,as):=by have:=c.toNat_lt;unfold D6;rw[AU (by grind[AJ]),MI,Ei,h.2 c];rfl
def Af0 (n:Nat):Nat:=if 65<=n/\n<=90 then n+32 else n
def E9 (c:UInt8):UInt8:=UInt8.ofNat (Af0 c.toNat)
def APs (l:B8) (hb:l.length<=2^60) (k2:List Int->Option B8): ∀(t pre:B8),l=pre++t->GN N l k2 t (pre.length:Int) (List.map AJ (pre.map E9)++List.map AJ t)=k2 (List.map AJ (l.map E9))
 |[],pre,h=>by grind[GN]
 | c::t,pre,h=>by
  have hlen:pre.length<l.length:=by grind
  have hc:=c.toNat_lt;rw[GN];refine(JA (a:=List.map AJ (pre.map E9)++(AJ (E9 c)::List.map AJ t)) λk7=>?_).trans ?_
  ·rw[AU fx,aF];have hi:idx (List.map AJ (pre.map E9)++AJ c::List.map AJ t) (pre.length:Int)=some (AJ c):=by grind[Uh,List.map,AJ,E9]
   rw[hi,aa];refine(JA (a:=decide (65<=c.toNat/\c.toNat<=90)) λk12=>?_).trans ?_
   ·by_cases h1:65<=c.toNat
    ·have:(65:Int)<=AJ c:=by grind[AJ]
     rw[aq (aG this)];congr 1;simp only[AJ,h1,dL];congr 1;simp only[eq_iff_iff];omega
    ·have: ¬(65:Int)<=AJ c:=by grind[AJ]
     rw[an (by grind),aO (λh=>h1 h.1)]
   try dsimp only
   by_cases h1:65<=c.toNat/\c.toNat<=90
   ·rw[aq (aG h1),AU (by simp<;>omega)];have e:E9 c=UInt8.ofNat (c.toNat+32):=by simp_all[E9,Af0]
    have e2:AJ (E9 c)=wr .u8 (AJ c+32):=by grind[AQG,AJ,toNat_ofNat]
    simp_all
   ·rw[an (by grind)];have e:E9 c=c:=by unfold E9 Af0;rw[an h1];simp
    rw[e]
  ·try dsimp only
   have:=APs l hb k2 t (pre++[c]) (by grind);simp_all
def lower_eq (l:B8) (hb:l.length<=2^60):FD N l=some (l.map E9):=by unfold FD;rw[AC,AU (by grind[AL])];have:=APs (N:=N) l hb (λj1=>grd (l.length<=j1.length/\AL l.length) (some (List.map FX (List.take l.length j1)))) l [] rfl;simp only[cp,bk,ap]at this;rw[show(0:Int)=((0:Nat):Int)from rfl,this,AU (by grind[AL]),aZ fy];congr 1;induction l with|nil=>rfl|cons c l ih=>simp[Ra]
end
end Go.VM
namespace Go.VM
section
variable{N:Nat}
def YR: ∀l:B8,List.map FX (List.map AJ l)=l|[]=>rfl|c::l=>by rw[aF,aF,Ra,YR l]
def AL8:Nat->Nat->B8->B8|0,_,acc=>acc|k+1,n,acc=>if n / 10=0 then UInt8.ofNat (48+n % 10)::acc else AL8 k (n / 10) (UInt8.ofNat (48+n % 10)::acc)
def fmtS (n:Nat):B8:=AL8 20 n []
theorem AR0: ∀(k n:Nat) (acc:B8),(AL8 k n acc).length<=acc.length+k
 |0,n,acc=>by simp[AL8]
 |k+1,n,acc=>by
  rw[AL8];split;·simp<;>omega
  ·have:=AR0 k (n / 10) (UInt8.ofNat (48+n % 10)::acc);grind
theorem ABN (n:Nat):(fmtS n).length<=20:=by grind[AR0,fmtS]
def AuU (n:Nat):wr .u64 ((n:Int).tdiv 10)=if n<2^64 then((n / 10:Nat):Int)else wr .u64 ((n:Int).tdiv 10):=by grind[Int.tdiv_eq_ediv_of_nonneg,Fx]
def Aq8{n:Nat} (h:n<2^64):wr .u64 ((n:Int).tdiv 10)=((n / 10:Nat):Int):=by rw[AuU,aq h]
def Aq1{n:Nat}:wr .u64 (48+(n:Int).tmod 10)=((48+n % 10:Nat):Int):=by grind[Int.tmod_eq_emod_of_nonneg,Fx]
theorem XO: ∀(k n:Nat) (acc:B8),n<10^k->n<2^64->acc.length+k<=1000->∀m,k<=m->0<k->Dk N m (n:Int) acc=some (AL8 k n acc)
 |0,n,acc,h,h2,ha,m,hm,hk=>by omega
 | k+1,n,acc,h,h2,ha,m+1,hm,hk=>by
  rw[Dk,Aq8 h2,Aq1,AL8];rw[AU (by grind[AL])];have e:(List.map FX [wr .u8 ((48+n % 10:Nat):Int)]++acc)=UInt8.ofNat (48+n % 10)::acc:=by rw[ATp,dp (show 48+n % 10<256 by omega)];rfl
  rw[e];by_cases c:n / 10=0;·rw[aq (by grind),aq c]
  ·have c': ¬((((n / 10:Nat):Int))==0)=true:=by grind
   rw[an c',an c];have hk2:0<k:=by grind
   exact XO k (n / 10) _ fx fx (by grind) m fx hk2
def ATs (n:Nat) (h:n<2^64) (hN:20<=N):F5 N (n:Int)=some (fmtS n):=by grind[F5,fmtS,XO]
def ARv (a:Nat) (x:Int) (acc:List Int):(List.replicate (a+1) 0++acc).set a x=List.replicate a 0++x::acc:=by rw[List.replicate_succ',aM];simp
def WU (k2:Int×Int×List Int->Option B8) (R:B8->Option B8) (hk: ∀(n a:Nat) (acc:B8),n<10->a<=19->acc.length+a=19->k2 ((n:Int),(a:Int),List.replicate (a+1) 0++acc.map AJ)=R (UInt8.ofNat (48+n)::acc)):∀(j n a:Nat) (acc:B8),n<10^(j+1)->n<2^64->j<=a->a<=19->acc.length+a=19->∀m,j<m->Eg N k2 m (n:Int) (a:Int) (List.replicate (a+1) 0++acc.map AJ)=R (AL8 (j+1) n acc)
 |j,n,a,acc,h,h2,hj,ha,hl,0,hm=>by omega
 | j,n,a,acc,h,h2,hj,ha,hl,m+1,hm=>by
  rw[Eg,AL8];by_cases c:n / 10=0;·have c': ¬(n:Int)>=10:=fx;rw[an (by grind),aq c,dp fx];grind
  ·have c':(n:Int)>=10:=fx;rw[aq (aG c'),an c];obtain⟨j,rfl⟩: ∃i,j=i+1:=⟨j-1,by grind⟩;obtain⟨a,rfl⟩: ∃i,a=i+1:=⟨a-1,fx⟩;rw[AU fx,AU (by simp<;>omega),Aq8 h2,Aq1,ATp,dp (show 48+n % 10<256 by omega),Aq fx];rw[show((a+1:Nat):Int)-1=(a:Int) by simp,bF,ARv];have e:List.replicate (a+1) 0++((48+n % 10:Nat):Int)::List.map AJ acc=List.replicate (a+1) 0++List.map AJ (UInt8.ofNat (48+n % 10)::acc):=by rw[aF,MI,toNat_ofNat fx]
   rw[e];exact WU k2 R hk j (n / 10) a _ fx fx fx fx (by grind) m fx
def AXW (n:Nat) (h:n<2^64) (hN:20<=N):F8 N (n:Int)=some (fmtS n):=by
 unfold F8 fmtS;rw[AC];refine WU (N:=N) _ some (λn a acc hn ha hl=>?_) 19 n 19 [] fx h fx fx rfl N fx;have w:wr .u8 (wr .u64 (48+(n:Int)))=((48+n:Nat):Int):=by rw[Fx fx,show(48:Int)+(n:Int)=((48+n:Nat):Int) by simp,ATp,dp fx]
 simp only[bF,w];rw[ARv];rw[AU fx,AU (by simp<;>omega),AU fx,AU (by grind[AL])];congr 1;rw[co,bI fy,cn,dq,aL,bk,aZ (by grind),aF,YR];rfl
end
end Go.VM
namespace Go.VM
end Go.VM
namespace Go.VM
section
variable{N:Nat}
def EF:Nat->B8->Nat|n,[]=>n|n,c::l=>EF (n * 10+Fp c.toNat) l
def AAU: ∀(l:B8) (n:Nat),n<=EF n l|[],n=>by simp_all[EF]|c::l,n=>by have:=AAU l (n * 10+Fp c.toNat);grind[EF]
def PX{c:UInt8} (h:Gu c=true):48<=c.toNat/\c.toNat<=57:=by grind[Gu]
def OY{c:UInt8} (h:Gu c=true):Lr c=true/\Fp c.toNat=c.toNat-48:=by have:=PX h;simp_all[Lr,Tz,Fp]
def ArI (k2:Unit->Option (Int×Int)): ∀l:B8,BA N k2 l=if l.all Gu=true then k2 ()else some (0,1)|[]=>by grind[BA]|c::l=>by rw[BA,Zc,aa,ArI k2 l];cases h:Gu c<;>simp[h]
def ArT{m:Nat} (hm:m<=18446744073709551615) (k9:Int->Option (Int×Int)): ∀(l:B8) (n:Nat),l.all Gu=true->n<=m->BB N 10 (m:Int) k9 l (n:Int)=if EF n l<=m then k9 ((EF n l:Nat):Int)else some (0,4)
 |[],n,_,hn=>by simp_all[BB,EF]
 |c::l,n,h,hn=>by
  simp only[bl,av]at h;have hd:Fp c.toNat<=9:=by have:=PX h.1;rw[(OY h.1).2];omega
  obtain⟨hx,hv⟩:=OY h.1;have hge:=AAU l (n * 10+Fp c.toNat);rw[BB,AX7 c hx,aa,AC,AU fA];have w3:wr .u64 (18446744073709551615-((Fp c.toNat:Nat):Int))=18446744073709551615-((Fp c.toNat:Nat):Int):=Fx fx;rw[w3,bv fx,Fx (n:=(18446744073709551615-((Fp c.toNat:Nat):Int)) / 10) fx,EF];by_cases c1:(n:Int)>(18446744073709551615-((Fp c.toNat:Nat):Int)) / 10;·rw[aq (aG c1),an fx];rfl
  have w1:wr .u64 ((n:Int) * 10)=((n * 10:Nat):Int):=by grind[Fx]
  have w2:wr .u64 (((n * 10:Nat):Int)+((Fp c.toNat:Nat):Int))=((n * 10+Fp c.toNat:Nat):Int):=by grind[Fx]
  rw[an (by grind),w1,w2];by_cases c2:n * 10+Fp c.toNat<=m;·have c3: ¬(((n * 10+Fp c.toNat:Nat):Int)>(m:Int)):=fx;rw[aO c3];simp only[aj,aA];exact ArT hm k9 l _ h.2 c2
  ·have c3:(((n * 10+Fp c.toNat:Nat):Int)>(m:Int)):=fx;rw[aG c3,an fx];rfl
def ADv{m:Nat} (hm:m<=18446744073709551615) (l:B8) (hb:l.length<=2^60):IU N l (m:Int)=some (if l=[]then(0,3)else if l.all Gu=true then(if EF 0 l<=m then(((EF 0 l:Nat):Int),0)else(0,4))else(0,1)):=by
 unfold IU Eh;by_cases h:l=[];·grind
 ·rw[an (by grind),an h,AC,AU (by grind[AL]),ArI];by_cases h1:l.all Gu=true;·rw[aq h1,aq h1,AC,AU (by grind[AL]),show(0:Int)=((0:Nat):Int)from rfl,ArT hm _ l 0 h1 fx];split<;>rfl
  ·rw[an h1,an h1];rfl
section
variable{s sg W F FR P EX:B8}
end
end
end Go.VM
namespace Go.VM
section
variable{N:Nat}
def AAS (k2:Unit->Option Bool): ∀l:B8,BH N k2 l=if l.all Gu=true then k2 ()else some false|[]=>by grind[BH]|c::l=>by rw[BH,Zc,aa,AAS k2 l];cases h:Gu c<;>simp[h]
def QQ (l:B8) (hb:l.length<=2^60):Jj N l=some (!l.isEmpty&&l.all Gu):=by unfold Jj Et;cases l with|nil=>rfl|cons c l=>rw[an fy,AC,BU fx,AAS];cases h:(c::l).all Gu<;>simp
def XB (k2:Unit->Option Bool): ∀l:B8,FK N k2 l=if l.all Gu=true then k2 ()else some false|[]=>by grind[FK]|c::l=>by rw[FK,Zg,aa,XB k2 l];cases h:Gu c<;>simp[h]
def VY (l:B8) (hb:l.length<=2^60):Gt N l=some (!l.isEmpty&&l.all Gu):=by unfold Gt;rw[AC,BU fx,XB];cases l with|nil=>rfl|cons c l=>cases h:(c::l).all Gu<;>simp
def ArG (k2:Unit->Option (Int×Int)): ∀l:B8,Df N 10 k2 l=if l.all Gu=true then k2 ()else some (0,1)|[]=>by grind[Df]|c::l=>by rw[Df,AC,show((10:Int)==10)=true from rfl,show((10:Int)==16)=false from rfl,aq rfl,Zg,aa,ArG k2 l];cases h:Gu c<;>simp[h]
def ArW{m:Nat} (hm:m<=18446744073709551615) (hm9:9<=m) (k9:Int->Option (Int×Int)): ∀(l:B8) (n:Nat),l.all Gu=true->n<=m->Ce N 10 (m:Int) k9 l (n:Int)=if EF n l<=m then k9 ((EF n l:Nat):Int)else some (0,4)
 |[],n,_,hn=>by simp_all[Ce,EF]
 | c::l,n,h,hn=>by
  simp only[bl,av]at h;have hr:=PX h.1;have hd:Fp c.toNat<=9:=by rw[(OY h.1).2];omega
  obtain⟨hx,hv⟩:=OY h.1;have c57: ¬(AJ c>57):=by grind[MI]
  have hdv:wr .u64 (wr .u8 (AJ c-48))=((Fp c.toNat:Nat):Int):=by grind[MI,AQG,Fx]
  rw[Ce];dsimp only[AC];rw[an (by grind),hdv,AU fA,bv fx];have w3:wr .u64 ((m:Int)-((Fp c.toNat:Nat):Int))=(m:Int)-((Fp c.toNat:Nat):Int):=Fx fx;have w4:wr .u64 ((m:Int) / 10)=(m:Int) / 10:=Fx fx;rw[w3,w4,EF];have hge:=AAU l (n * 10+Fp c.toNat);by_cases c1:(n:Int)>(m:Int) / 10;·rw[aq (aG c1),aq rfl,an fx]
  ·have w1:wr .u64 ((n:Int) * 10)=((n * 10:Nat):Int):=by grind[Fx]
   rw[an (by grind),w1];by_cases c2:((n * 10:Nat):Int)>(m:Int)-((Fp c.toNat:Nat):Int);·rw[aq (aG c2),aq rfl,an fx]
   ·have w2:wr .u64 (((n * 10:Nat):Int)+((Fp c.toNat:Nat):Int))=((n * 10+Fp c.toNat:Nat):Int):=by grind[Fx]
    rw[an (by grind),an (by grind),w2];exact ArW hm hm9 k9 l _ h.2 fx
def Ut (m:Nat) (l:B8):Int×Int:=if l=[]then(0,3)else if l.all Gu=true then(if EF 0 l<=m then(((EF 0 l:Nat):Int),0)else(0,4))else(0,1)
def ABC{m:Nat} (hm:m<=18446744073709551615) (hm9:9<=m) (l:B8) (hb:l.length<=2^60):JZ N l 10 (m:Int)=some (Ut m l):=by
 unfold JZ Ut;by_cases h:l=[];·grind
 ·rw[an (by grind),an h,AC,BU fx,ArG];by_cases h1:l.all Gu=true;·rw[aq h1,aq h1,AC,BU fx,show(0:Int)=((0:Nat):Int)from rfl,ArW hm hm9 _ l 0 h1 fx];split<;>rfl
  ·rw[an h1,an h1]
def Du (m:Nat) (l:B8):Int×Int:=if l=[]then(0,3)else if l.all Gu=true then(if 1<l.length/\l.head?=some 48 then(0,6)else if EF 0 l<=m then(((EF 0 l:Nat):Int),0)else(0,4))else(0,1)
def b48 (c:UInt8):(AJ c==48)=decide (c=48):=by have:=Cq (f:=λn=>((n:Int)==48)) (g:=λn=>decide (UInt8.ofNat n=48)) (by kernel_rfl) c;simp only[ce]at this;exact this
def AAn (c:UInt8) (l:B8) (e:Int×Int):(if decide (((c::l).length:Int)>1)=true then(idx (c::l) 0).bind λx=>if(AJ x==48)=true then(some (0,6):Option (Int×Int))else some (e.1,e.2)else if false=true then some (0,6)else some (e.1,e.2))=some (if 1<(c::l).length/\(c::l).head?=some 48 then(0,6)else e):=by
 by_cases hl:1<(c::l).length
 ·rw[aq (by simp only[aw];omega),show idx (c::l) 0=some c from rfl,aa,b48];by_cases hc:c=48;·rw[aG hc,aq rfl,aq ⟨hl,by simp[hc]⟩]
  ·rw[aO hc,an fA,an (by simp[hc])]
 simp_all
def VT{m:Nat} (hm:m<=18446744073709551615) (l:B8) (hb:l.length<=2^60):G5 N l (m:Int)=some (Du m l):=by
 unfold G5 Du;dsimp only[AC];rw[QQ l hb,aa,ADv hm l hb,aa];cases l with
 |nil=>rfl
 |cons c l=>
  simp only[reduceCtorEq,aA];obtain⟨b,h⟩: ∃b,(c::l).all Gu=b:=⟨_,rfl⟩;rw[h];cases b;·simp
  ·rw[aq (by rfl),aq rfl,aq rfl];have hd: ∀e:Int×Int,(if decide (((c::l).length:Int)>1)=true then(idx (c::l) 0).bind λx=>if(AJ x==48)=true then(some (0,6):Option (Int×Int))else some (e.1,e.2)else if false=true then some (0,6)else some (e.1,e.2))=some (if 1<(c::l).length/\(c::l).head?=some 48 then(0,6)else e):=AAn c l;simp_all
def AAk{m:Nat} (hm:m<=18446744073709551615) (hm9:9<=m) (l:B8) (hb:l.length<=2^60):Ld N l (m:Int)=some (Du m l):=by
 have hp:=ABC (N:=N) hm hm9 l hb;unfold Ut at hp;unfold Ld Du;rw[hp,aa];dsimp only[AC];cases l with
 |nil=>rfl
 | cons c l=>
  simp only[reduceCtorEq,aA];obtain⟨b,h⟩: ∃b,(c::l).all Gu=b:=⟨_,rfl⟩;rw[h];cases b;·rfl
  ·simp only[aD];have hd:=AAn c l;by_cases hv:EF 0 (c::l)<=m;·simp_all
   ·rw[an hv,an fy,aq (by rfl)];grind
end
end Go.VM
namespace Go.VM
section
variable{N:Nat}
def ATl (c:UInt8):Bool:=NR c||(Gu c||decide (c=45))
def b45 (c:UInt8):(AJ c==45)=decide (c=45):=by have:=Cq (f:=λn=>((n:Int)==45)) (g:=λn=>decide (UInt8.ofNat n=45)) (by kernel_rfl) c;simp only[ce]at this;exact this
def AC5 (k8:Unit->Option Bool): ∀l:B8,Gx N k8 l=if l.all ATl=true then k8 ()else some false|[]=>by grind[Gx]|c::l=>by rw[Gx,AC,UY,aa,Zc,aa,bne,b45,AC5 k8 l,bl];unfold ATl;cases NR c<;>cases Gu c<;>cases decide (c=45)<;>simp
def ADG (k2:Unit->Option Bool): ∀l:B8,GZ N k2 l=if l.all ATl=true then k2 ()else some false|[]=>by grind[GZ]|c::l=>by rw[GZ,AC,YI,aa,Zg,aa,bne,b45,ADG k2 l,bl];unfold ATl;cases NR c<;>cases Gu c<;>cases decide (c=45)<;>simp
def RL (l:B8):Bool:=!l.isEmpty&&(decide (l.length<=63)&&(decide (l.head?≠some 45)&&(decide (l.getLast?≠some 45)&&l.all ATl)))
def AD3{c:UInt8}{l:B8} (hb:(c::l).length<=2^60): ∃d,(c::l).getLast?=some d/\idx (c::l) (wr .i64 (((c::l).length:Int)-1))=some d:=by have hne:(c::l)≠ []:=fy;refine⟨(c::l).getLast hne,cY hne,?_⟩;rw[show wr .i64 (((c::l).length:Int)-1)=(((c::l).length-1:Nat):Int) by simp only[ag]at hb⊢;rw[Aq fx];omega,Ei,<-eJ,cY hne]
def Abm (l:B8) (hb:l.length<=2^60):QE N l=some (RL l):=by
 unfold QE RL;dsimp only[AC];cases l with
 |nil=>rfl
 | cons c l=>
  obtain⟨d,h1,h2⟩:=AD3 hb;rw[an fy,h2,h1,show idx (c::l) 0=some c from rfl,aa,aa,b45,b45,BU fx,AC5];by_cases hl:(c::l).length<=63
  ·rw[an (by simp only[aw];omega),aG hl];by_cases hc:c=45;·simp_all
   ·rw[aO hc,an fA];by_cases hd:d=45;·simp_all
    ·rw[aO hd,an fA];obtain⟨b,hb2⟩: ∃b,(c::l).all ATl=b:=⟨_,rfl⟩;rw[hb2];cases b<;>simp[hc,hd]
  ·rw[aq (by simp only[aw];omega),aq rfl,aO hl];simp
def Ads (l:B8) (hb:l.length<=2^60):Oj N l=some (RL l):=by
 unfold Oj RL;dsimp only[AC];rw[BU fx,ADG];cases l with
 |nil=>rfl
 | cons c l=>
  obtain⟨d,h1,h2⟩:=AD3 hb;obtain⟨b,hb2⟩: ∃b,(c::l).all ATl=b:=⟨_,rfl⟩;rw[an (c:=((c::l==[])=true)) fy,h2,h1,show idx (c::l) 0=some c from rfl,aa,aa,bne,bne,b45,b45,hb2];cases b;·simp
  ·rw[aq rfl];by_cases hl:(c::l).length<=63;·rw[aq (by simp only[aw];omega),aG hl];by_cases hc:c=45<;>simp_all
   ·rw[an (by simp only[aw];omega),aO hl];simp
end
end Go.VM
namespace Go.VM
def Bb (c:UInt8):B8->List B8|[]=>[[]]|x::t=>if x=c then []::Bb c t else(match Bb c t with|p::ps=>(x::p)::ps|[]=>[[x]])
theorem Ua (c:UInt8): ∀l:B8,Bb c l≠ []|[]=>by simp[Bb]|x::t=>by grind[Bb]
def AUM (cur:B8):List B8->List B8|p::ps=>(cur++p)::ps|[]=>[cur]
def AZ7{c x:UInt8}{t cur:B8} (h: ¬x=c):AUM cur (Bb c (x::t))=AUM (cur++[x]) (Bb c t):=by rw[Bb,an h];grind[Bb,absurd,AUM]
def OA (c:UInt8): ∀l:B8,(Bb c l).length<=l.length+1|[]=>by simp[Bb]|x::t=>by have:=OA c t;grind[Bb]
def ND (c:UInt8): ∀(l p:B8),p∈Bb c l->p.length<=l.length
 |[],p,h=>by grind[Bb]
 | x::t,p,h=>by
  rw[Bb]at h;split at h
  ·rcases aP.1 h with rfl|h;·simp
   ·have:=ND c t p h;grind
  ·split at h
   ·rename_i q qs hq;rcases aP.1 h with rfl|h;·have:=ND c t q (by grind);grind
    ·have:=ND c t p (by grind);grind
   grind
section
variable{N:Nat}
theorem Ak7 (x c:UInt8):(AJ x==AJ c)=decide (x=c):=by
 by_cases e:x=c;·grind
 ·have: ¬x.toNat=c.toNat:=λh=>e (dC.1 h);rw[aO e];simp only[AJ,bw,eN];omega
def TU (l:B8) (c:UInt8) (hb:l.length<=1000000): ∀(t pre cur:B8) (out:List B8),l=pre++(cur++t)->out.length<=pre.length+cur.length->Eu N l (AJ c) (λj1=>(sub l j1.2 (l.length:Int)).bind λx11=>grd (Ac (j1.1.length+1) 16) (some (j1.1++[x11]))) t ((pre.length+cur.length:Nat):Int) out (pre.length:Int)=some (out++AUM cur (Bb c t))
 |[],pre,cur,out,h,ho=>by have hl:=bu List.length h;simp only[ah,ap]at hl;rw[Eu];dsimp only;rw[Av l pre.length l.length fx fx,aa,AU (by grind[Ac]),h,ew];simp[Bb,AUM]
 | x::t,pre,cur,out,h,ho=>by
  have hl:=bu List.length h;simp only[ah,ag]at hl;rw[Eu,AC,Ak7];by_cases e:x=c
  ·rw[aG e,aq rfl,Av l pre.length (pre.length+cur.length) fx fx,aa,AU (by grind[Ac])];dsimp only;have:=TU l c hb t (pre++cur++[x]) [] (out++[cur]) (by grind) (by grind);have e1:(l.drop pre.length).take (pre.length+cur.length-pre.length)=cur:=by grind
   rw[e1,Bb,aq e];rw[show(((pre++cur++[x]).length+([]:B8).length:Nat):Int)=((pre.length+cur.length:Nat):Int)+1 by grind,show(((pre++cur++[x]).length:Nat):Int)=((pre.length+cur.length:Nat):Int)+1 by grind]at this;rw[this];cases hs:Bb c t with|nil=>grind[absurd,Ua]|cons p ps=>simp[AUM]
  ·rw[aO e,an fA,AZ7 e];dsimp only;have:=TU l c hb t pre (cur++[x]) out (by grind) (by grind);grind
def YF (l:B8) (c:UInt8) (hb:l.length<=1000000):FQ N l (AJ c)=some (Bb c l):=by unfold FQ;rw[AC,BU fx];have:=TU (N:=N) l c hb l [] [] [] rfl fy;refine this.trans ?_;cases hs:Bb c l with|nil=>grind[absurd,Ua]|cons p ps=>simp[AUM]
end
end Go.VM
namespace Go.VM
theorem Pw (c:UInt8): ∀l:B8,Bb c l=if(BI c l).2.2=true then(BI c l).1::Bb c (BI c l).2.1 else [(BI c l).1]
 |[]=>by simp[Bb,BI]
 | x::t=>by
  have ih:=Pw c t;rw[Bb];unfold BI at ih⊢;by_cases e:x=c;·simp_all
  ·have e1:(c==x)=false:=by grind
   have e3:(x !=c)=true:=by grind
   rw[an e,bC,e1,bg,bb,e3];cases hc:t.contains c<;>simp_all
section
variable{N:Nat}
def Avi (l:B8):Bool:=!l.isEmpty&&l.all Gu
def U0 (l:B8):Bool:=(Bb 46 l).all RL&&!Avi ((Bb 46 l).getLast (Ua 46 l))
def Acc (l:B8):U0 l=(RL (BI 46 l).1&&if(BI 46 l).2.2=true then U0 (BI 46 l).2.1 else !Avi (BI 46 l).1):=by
 have h:=Pw 46 l;unfold U0;cases hc:(BI 46 l).2.2;·simp_all
 ·rw[hc]at h;simp only[aD]at h⊢;grind
def AOz{c:UInt8}{l:B8} (h:(BI c l).2.2=true):(BI c l).2.1.length<l.length:=by
 unfold BI at h⊢;cases hc:l.contains c;·grind
 ·have h1:=RX hc;have h2:(l.takeWhile (· !=c)).length+(l.dropWhile (· !=c)).length=l.length:=by grind[List.length_append,List.takeWhile_append_dropWhile]
  simp only[aD,aN];omega
def Aqt (c:UInt8) (l:B8):(BI c l).1.length<=l.length:=by
 unfold BI;split;·grind[Ri]
 simp
def AAE: ∀(k:Nat) (l:B8),l.length<k->l.length<=2^60->Jq N k l=some (U0 l)
 |0,l,h,_=>by omega
 | k+1,l,h,hb=>by
  have h1:=Aqt 46 l;rw[Jq,SK 46 l hb,aa,Abm _ fx,aa,Acc l];cases RL (BI 46 l).1;·rfl
  ·rw[aq rfl,cD];cases hc:(BI 46 l).2.2;·rw[an fA,QQ _ fx,aa];rfl
   ·have:=AOz hc;rw[aq rfl,aq rfl];exact AAE k _ fx fx
def AiG (l:B8) (hN:l.length<N) (hb:l.length<=2^60):UX N l=some (U0 l):=AAE N l hN hb
def AAC (k4:Unit->Option Bool): ∀ps:List B8,(∀p,p∈ps->p.length<=2^60)->G9 N k4 ps=if ps.all RL=true then k4 ()else some false|[],_=>by grind[G9]|p::ps,h=>by rw[G9,Ads p (h p fy),aa,AAC k4 ps λq hq=>h q (by grind),bl];cases RL p<;>simp
def AlK (l:B8) (hb:l.length<=1000000):QJ N l=some (U0 l):=by
 have hl:=OA 46 l;have hp:=ND 46 l;have hne:=Ua 46 l;unfold QJ;rw[show(46:Int)=AJ 46 from rfl,YF l 46 hb,aa];dsimp only[AC];rw[BU fx,AAC _ _ λp h=>by grind];have hlast:idx (Bb 46 l) (wr .i64 (((Bb 46 l).length:Int)-1))=some ((Bb 46 l).getLast hne):=by have:0<(Bb 46 l).length:=dy.2 hne;rw[show wr .i64 (((Bb 46 l).length:Int)-1)=(((Bb 46 l).length-1:Nat):Int) by rw[Aq fx];omega,Ei,<-eJ,cY hne]
 have:=hp _ (List.getLast_mem hne);rw[hlast,aa,VY _ fx,aa];unfold U0;cases (Bb 46 l).all RL;·rfl
 ·rfl
def AXN (l:B8):Bool:=decide ((Bb 46 l).length=4)&&(Bb 46 l).all λp=>(Du 255 p).2==0
def ADL (k4:Unit->Option Bool): ∀ps:List B8,(∀p,p∈ps->p.length<=2^60)->FB N k4 ps=if(ps.all λp=>(Du 255 p).2==0)=true then k4 ()else some false|[],_=>by grind[FB]|p::ps,h=>by rw[FB,show(255:Int)=((255:Nat):Int)from rfl,AAk fA fA p (h p fy),aa,ADL k4 ps λq hq=>h q (by grind),bl];cases hx:((Du 255 p).2==0)<;>simp[bne,hx]
def Aou (l:B8) (hb:l.length<=1000000):NM N l=some (AXN l):=by
 have hl:=OA 46 l;have hp:=ND 46 l;unfold NM;rw[show(46:Int)=AJ 46 from rfl,YF l 46 hb,aa];dsimp only[AC];rw[BU fx,ADL _ _ λp h=>by grind];unfold AXN;have e:(((Bb 46 l).length:Int)==4)=decide ((Bb 46 l).length=4):=by grind
 rw[e];cases ((Bb 46 l).all λp=>(Du 255 p).2==0)<;>simp
end
end Go.VM
namespace Go.VM
section
variable{N:Nat}
def AYr (c:UInt8) (l:B8):strings_Index N l [c]=some (Go.Lib.indexByte l c):=by simp_all[strings_Index,Az]
def AaJ{c:UInt8}{l:B8}:l.count c=0<->l.contains c=false:=by grind
def ADg{c:UInt8}: ∀ {l:B8},l.contains c=true->l.count c=((l.dropWhile (· !=c)).drop 1).count c+1
 |[],h=>by grind
 | x::t,h=>by
  by_cases hx:x=c;·simp_all
  ·have hx':(x !=c)=true:=by grind
   rw[bC,show(c==x)=false by grind,bg]at h;rw[bZ,aq hx',List.count_cons,show(x==c)=false by grind,ADg h];simp
theorem Rj{c:UInt8}{l:B8} (h:l.contains c=true):BI c l=(l.takeWhile (· !=c),(l.dropWhile (· !=c)).drop 1,true):=by simp_all[BI]
theorem Vz{c:UInt8}{l:B8} (h:l.contains c=false):BI c l=(l,[],false):=by simp_all[BI]
def AMI{c:UInt8}{l:B8} (h:l.contains c=true) (hb:l.length<=1000000):sub l 0 (wr .i64 (Go.Lib.indexByte l c+0))=some (BI c l).1/\sub l (wr .i64 (Go.Lib.indexByte l c+(([c]:B8).length:Int))) (l.length:Int)=some (BI c l).2.1:=by
 have hlt:=RX h;rw[O7];unfold BI;simp only[h,aD];generalize hn:(l.takeWhile (· !=c)).length=n at *;have w:wr .i64 ((n:Int)+(([c]:B8).length:Int))=((n+1:Nat):Int):=by grind[Aq]
 have w0:wr .i64 ((n:Int)+0)=(n:Int):=by grind[Aq]
 rw[w,w0,show(0:Int)=((0:Nat):Int)from rfl,Av l 0 n fx fx,Av l (n+1) l.length fx fx];rw[aL,bo,<-hn,Ho,aZ fy,<-aY,Ke];simp
def ASG{c:UInt8}{a0:B8}{j3:Int}{M:Nat} (k10:B8×Int×List B8->Option (List B8)) (hE:(if(wr .i64 ((a0.length:Int)+1))<j3 then(wr .i64 ((a0.length:Int)+1))else j3)=((M:Nat):Int)) (hM:M<=2000000):∀(k:Nat) (s:B8) (done:List B8),s.count c=k->s.length<=1000000->done.length+k+1<=M->∃pre last,pre++[last]=done++Bb c s/\pre.length=done.length+k/\CU N a0 [c] 0 j3 k10 k (done.length:Int) s (done++List.replicate (k+1) [])=k10 (last,((done.length+k:Nat):Int),pre++[[]])
 |0,s,done,hc,hs,hd=>by
  have h0:=AaJ.1 hc;refine⟨done,s,?_,rfl,?_⟩;·grind[Pw,Vz]
  grind[CU]
 | k+1,s,done,hc,hs,hd=>by
  have h1:s.contains c=true:=by grind
  obtain⟨s1,s2⟩:=AMI h1 hs;have hcb:=ADg h1;have hc1:(BI c s).2.1=(s.dropWhile (· !=c)).drop 1:=by rw[Rj h1]
  rw[<-hc1]at hcb;have hl:=Mj c s;obtain⟨pre,last,p1,p2,p3⟩:=ASG (c:=c) k10 hE hM k (BI c s).2.1 (done++[(BI c s).1]) fx fx (by grind);refine⟨pre,last,?_,by grind,?_⟩;·rw[p1,Pw c s,aq (by rw[Rj h1])];simp
  ·rw[CU,AYr,aa,an (by rw[O7,aq h1];simp),s1,aa,hE,AU (by constructor<;>omega),AU fy,s2,aa];have e1:(done++List.replicate (k+1+1) ([]:B8)).set (done.length:Int).toNat (BI c s).1=(done++[(BI c s).1])++List.replicate (k+1) []:=by rw[bF,de _ _ (au _),dq,dz,ca];simp
   grind
def ADr (l:B8) (c:UInt8) (hb:l.length<=1000000):strings_Split N l [c]=some (Bb c l):=by
 have hcl:l.count c<=l.length:=List.count_le_length;have hcnt:strings_Count N l [c]=some ((l.count c:Nat):Int):=by unfold strings_Count;rw[an fy,aq (by rfl),show idx [c] 0=some c from rfl,aa,Ra];rfl
 unfold strings_Split strings_genSplit;dsimp only[AC];rw[an fA,an fy,aq fA,hcnt,aa];have w1:wr .i64 (((l.count c:Nat):Int)+1)=((l.count c+1:Nat):Int):=by grind[Aq]
 have w2:wr .i64 ((l.length:Int)+1)=((l.length+1:Nat):Int):=by grind[Aq]
 rw[w1];have hE:(if(wr .i64 ((l.length:Int)+1))<((l.count c+1:Nat):Int)then(wr .i64 ((l.length:Int)+1))else((l.count c+1:Nat):Int))=((l.count c+1:Nat):Int):=fx;obtain⟨pre,last,p1,p2,p3⟩:=ASG (N:=N) (c:=c) (a0:=l) (j3:=((l.count c+1:Nat):Int)) (M:=l.count c+1) (λj9:B8×Int×(List B8)=>grd (0<=j9.2.1/\j9.2.1<((if(wr .i64 ((l.length:Int)+1))<((l.count c+1:Nat):Int)then(wr .i64 ((l.length:Int)+1))else((l.count c+1:Nat):Int)).toNat:Int)) (grd (j9.2.1.toNat+1<=j9.2.2.length) (grd (0<=(wr .i64 (j9.2.1+1))/\(wr .i64 (j9.2.1+1))<=((if(wr .i64 ((l.length:Int)+1))<((l.count c+1:Nat):Int)then(wr .i64 ((l.length:Int)+1))else((l.count c+1:Nat):Int)).toNat:Int)) (grd ((wr .i64 (j9.2.1+1)).toNat<=j9.2.2.length) (some (List.take ((wr .i64 (j9.2.1+1)).toNat) (j9.2.2.set j9.2.1.toNat j9.1))))))) hE fx (l.count c) l [] rfl hb fy;have w3:(wr .i64 (((l.count c+1:Nat):Int)-1)-0).toNat=l.count c:=by grind[Aq]
 rw[hE]at p3⊢;rw[AU (by grind[XR]),AU fx,w3];simp only[bF]at p3⊢;simp only[bk,ap,bJ]at p1 p2 p3;rw[show((0:Nat):Int)=0 from rfl]at p3;rw[p3];have w4:wr .i64 (((l.count c:Nat):Int)+1)=((pre.length+1:Nat):Int):=fx;rw[w4];simp only[bF];rw[AU fx,AU (by grind),AU fx,AU fy,aa];rw[<-p2,de _ _ (au _),dq,ca,aZ fy,p1]
end
end Go.VM
namespace Go.VM
section
variable{N:Nat}
section
variable{l t:B8}{i p:Nat}
end
end
end Go.VM
namespace Go.VM
section
variable{N:Nat}
section
variable{l:B8}
end
def QO: ∀l:B8,List.map FX (List.map AJ l)=l|[]=>rfl|c::l=>by rw[aF,aF,Ra,QO l]
end
end Go.VM
namespace Go.VM
section
variable{N:Nat}
def PL (c:UInt8):Bool:=NR c||(Gu c||([45,46,95,126]:B8).contains c)
def AYg (c:UInt8):Dj N (AJ c)=some (PL c):=by have:=Cq (f:=λn=>Dj N (n:Int)) (g:=λn=>some (PL (UInt8.ofNat n))) (by kernel_rfl) c;simp only[ce]at this;exact this
def AYB (c:UInt8):De N (AJ c)=some (PL c):=by have:=Cq (f:=λn=>De N (n:Int)) (g:=λn=>some (PL (UInt8.ofNat n))) (by kernel_rfl) c;simp only[ce]at this;exact this
def ACt (c:UInt8) (h:Lr c=true):KG N (AJ c)=some ((Fp c.toNat:Nat):Int):=by have:=Cq (f:=λn=>if Tz n=true then KG N (n:Int)else none) (g:=λn=>if Tz n=true then some ((Fp n:Nat):Int)else none) (by kernel_rfl) c;simp only[show Tz c.toNat=true from h,aD]at this;exact this
def ADi (c:UInt8) (h:Lr c=true):M7 N (AJ c)=some ((Fp c.toNat:Nat):Int):=by have:=Cq (f:=λn=>if Tz n=true then M7 N (n:Int)else none) (g:=λn=>if Tz n=true then some ((Fp n:Nat):Int)else none) (by kernel_rfl) c;simp only[show Tz c.toNat=true from h,aD]at this;exact this
def Bp (a b:UInt8):UInt8:=UInt8.ofNat (16 * Fp a.toNat+Fp b.toNat)
def Awh{x y:Nat} (Bp:x<16) (hy:y<16):O9 .u8 (AD8 .u8 (x:Int) 4) (y:Int)=AJ (UInt8.ofNat (16 * x+y)):=by have:=Cq (f:=λn=>O9 .u8 (AD8 .u8 ((n / 16:Nat):Int) 4) ((n % 16:Nat):Int)) (g:=λn=>AJ (UInt8.ofNat n)) (by kernel_rfl) (UInt8.ofNat (16 * x+y));grind[UInt8.ofNat,UInt8.toNat_ofNat']
def Awc{x y:Nat} (Bp:x<16) (hy:y<16):wr .u8 ((wr .u8 (16 * (x:Int)))+(y:Int))=AJ (UInt8.ofNat (16 * x+y)):=by grind[UInt8.ofNat,UInt8.toNat_ofNat',AQG,MI]
def AFQ:B8->Option UInt8|a::b::_=>if(Lr a&&Lr b)=true then some (Bp a b)else none|_=>none
def ABt:Option UInt8->Int×Bool|some x=>(AJ x,true)|none=>(0,false)
section
variable{l t:B8}{i:Nat}{c:UInt8}
def Ang (h:l.drop i=c::t) (hb:l.length<=2^40):II N l (i:Int)=some (ABt (AFQ t)):=by
 have hi:i<=l.length:=by have:=bu List.length h;grind
 have hl:=Ru h hi;simp only[ag]at hl;unfold II;dsimp only[AC];rw[Aq fx];match t,h,hl with
 |[],h,hl=>simp only[ap]at hl;rw[aq (by grind),aq rfl];rfl
 |[a],h,hl=>simp only[ag,ap]at hl;rw[aq (by grind),aq rfl];rfl
 | a::b::r,h,hl=>
  simp only[ag]at hl;rw[an (by grind),show wr .i64 ((i:Int)+1)=((i+1:Nat):Int) by grind[Aq],show wr .i64 ((i:Int)+2)=((i+2:Nat):Int) by grind[Aq],P7 (j:=1) h rfl,P7 (j:=2) h rfl,aa,aa,Zd,aa,aa,Zd,aa];unfold AFQ;cases ha:Lr a;·grind[ABt]
  ·cases hb2:Lr b;·grind[ABt]
   ·simp only[bL,dc,aD,aj,aA];rw[ACt a ha,aa,aa,ACt b hb2,aa,Awh (Uc a ha) (Uc b hb2)];simp[ABt,ha,hb2,Bp]
def AnP (h:l.drop i=37::t) (hb:l.length<=2^40):Lb N l (i:Int)=some (ABt (AFQ t)):=by
 have hi:i<=l.length:=by have:=bu List.length h;grind
 have hl:=Ru h hi;simp only[ag]at hl;unfold Lb;dsimp only[AC];rw[show wr .i64 ((i:Int)+1)=((i+1:Nat):Int) by grind[Aq],show wr .i64 ((i:Int)+2)=((i+2:Nat):Int) by grind[Aq]];match t,h,hl with
 |[],h,hl=>simp only[ap]at hl;rw[aq (by grind),aq rfl];rfl
 |[a],h,hl=>simp only[ag,ap]at hl;rw[aq (by grind),aq rfl];rfl
 | a::b::r,h,hl=>
  simp only[ag]at hl;rw[an (by grind),show idx l (i:Int)=some 37 from P7 (j:=0) h rfl,aa,an fA,P7 (j:=1) h rfl,P7 (j:=2) h rfl,aa,aa,Zi,aa,aa,Zi,aa];unfold AFQ;cases ha:Lr a;·grind[ABt]
  ·cases hb2:Lr b;·grind[ABt]
   ·simp only[bL,dc,aD,aj,aA];rw[ADi a ha,aa,aa,ADi b hb2,aa,Awc (Uc a ha) (Uc b hb2)];simp[ABt,ha,hb2,Bp]
def Tw{n:Nat} (h:n<=1000000000):Ac n 1:=by grind[Ac]
def AJ7{x:UInt8} (h:AFQ t=some x):2<=t.length:=by match t,h with|[],h=>cases h|[_],h=>cases h|_::_::_,_=>simp
def Afm (c:UInt8):(AJ c==37)=decide (c=37):=by have:=Cq (f:=λn=>((n:Int)==37)) (g:=λn=>decide (UInt8.ofNat n=37)) (by kernel_rfl) c;simp only[ce]at this;exact this
end
end
end Go.VM
