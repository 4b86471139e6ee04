import GoSem.Claim
import Derived.Test.YtalbfkgififmfaaGreatDoorDefs
import Derived.KernelRfl
set_option linter.defProp false
set_option linter.unusedVariables false
set_option linter.unusedSimpArgs false
namespace Go.VM
theorem Ak{n:Int} (h: -9223372036854775808<=n/\n<=9223372036854775807):wr .i64 n=n:=by grind[wr,IntKind.wrap,IntKind.bits,IntKind.signed]
def D7{α:Type} (l:List α) (n:Nat):idx l (n:Int)=l[n]?:=by simp[idx]
theorem Wu{α:Type} (pre suf:List α) (x:α):idx (pre++x::suf) (pre.length:Int)=some x:=by simp[idx]
def AlE{α:Type} (pre:List α) (x:α):(pre.length:Int)+1=((pre++[x]).length:Int):=fN
def AcH{α:Type} (l:List α):sub l 0 (l.length:Int)=some l:=by simp[sub]
def Av{α:Type} (l:List α) (a b:Nat) (h1:a<=b) (h2:b<=l.length):sub l (a:Int) (b:Int)=some ((l.drop a).take (b-a)):=by grind[sub]
theorem AP{α:Type}{c:Prop} [Decidable c]{x:Option α} (h:c):grd c x=x:=by grind[grd]
def AYS{n b:Nat} (h:n<=1000000) (hb:b<=100000):Af n b:=by unfold Af;have:n * b<=1000000 * 100000:=eI h hb;omega
def A1p{α:Type}{n b:Nat}{x:Option α} (h:n<=1000000) (hb:b<=100000):grd (Af n b) x=x:=AP (AYS h hb)
theorem Ap{α:Type}{n:Nat}{x:Option α} (h:n<=4611686018427387904):grd (AL n) x=x:=AP h
theorem AB{α β:Type} (k:α->Option β) (body:(α->Option β)->Option β){d:JD α}:AA k body d=body k:=rfl
def wf_u8{n:Int} (h:(Lit.int .u8 n).wf=true):0<=n/\n<=255:=by simp only[Lit.wf,aw,au]at h;have e1:IntKind.u8.min=0:=fO;have e2:IntKind.u8.max=255:=fO;omega
def Ok{α:Type} (x:Option α) (P:α->Prop):Prop:= ∃a,x=some a/\P a
section
variable{α β:Type}{P:α->Prop}{Q:β->Prop}
def Ok.ret{a:α} (h:P a):Ok (some a) P:=⟨a,rfl,h⟩
def Ok.bind{x:Option β}{f:β->Option α} (h:Ok x Q) (k: ∀b,Q b->Ok (f b) P):Ok (Option.bind x f) P:=by obtain⟨b,rfl,hb⟩:=h;grind
def Ok.ite{c:Bool}{x y:Option α} (h1:c=true->Ok x P) (h2:c=false->Ok y P):Ok (if c=true then x else y) P:=by
 cases c;·simpa using h2 rfl
 ·simpa using h1 rfl
theorem Ok.grd{c:Prop} [Decidable c]{x:Option α} (hc:c) (h:Ok x P):Ok (grd c x) P:=by grind[AP]
def Ok.meet (J:β->Prop){k:β->Option α}{body:(β->Option α)->Option α}{d:JD β} (hk: ∀b,J b->Ok (k b) P) (hb: ∀k':β->Option α,(∀b,J b->Ok (k' b) P)->Ok (body k') P):Ok (AA k body d) P:=hb k hk
def Ok.letL{x:β}{f:β->Option α} (h:Ok (f x) P):Ok (letL x f) P:=h
def Ok.mono{x:Option α}{P':α->Prop} (h:Ok x P) (k: ∀a,P a->P' a):Ok x P':=by obtain⟨a,e,ha⟩:=h;exact⟨a,e,k a ha⟩
theorem Ok.idx{l:List α}{i:Int} (h0:0<=i) (h1:i<l.length):Ok (idx l i) (λx=>l[i.toNat]?=some x):=by have:i.toNat<l.length:=fM;exact⟨l[i.toNat],by grind[VM.idx],aS this⟩
end
section
variable{N:Nat}
def Gd (d:AI):Prop:=(∀a,a∈d.l->0<=a/\a<=255)/\d.l.length<=1000
def XR{d:AI} (hd:Gd d){n:Nat} (h1:1<=n):Ok (Am N d (n:Int)) λr=>(0<=r.1/\r.1<n)/\Gd r.2:=by
 unfold Am;have hz:Ok (some ((0:Int),d)) λr=>(0<=r.1/\r.1<n)/\Gd r.2:=.ret ⟨⟨bE _,by dsimp only;omega⟩,hd⟩;dsimp only[AB];cases hq:d.l with
 |nil=>exact hz
 |cons a t=>
  have hl:=hd.2;rw[hq]at hl;simp only[ae]at hl;obtain⟨a1,a2⟩:=hd.1 a (by rw[hq];simp);rw[aj fP];refine Ok.ite (λ_=>hz) λ_=>?_;have e1:sub (a::t) 1 ((a::t).length:Int)=some t:=by rw[show(1:Int)=((1:Nat):Int)from rfl,Av _ 1 _ fN (av _)];simp
  rw[show idx (a::t) 0=some a from rfl,aa,e1,aa,Ak fM];refine .grd fM (.ret ⟨⟨?_,?_⟩,λb hb=>hd.1 b (by rw[hq];simp[hb]),by dsimp only;omega⟩);·exact Int.tmod_nonneg _ a1
  ·exact Int.tmod_lt_of_pos _ fM
def oneG{d:AI} (hd:Gd d){l:List B8} (h1:1<=l.length):Ok (BZ N d l) λr=>r.1∈l/\Gd r.2:=by unfold BZ;refine .bind (XR hd h1) λy ⟨⟨y1,y2⟩,y3⟩=>?_;exact .bind (Ok.idx y1 y2) λx hx=>.ret ⟨ef hx,y3⟩
def ACB{α:Type}{n:Nat}{x:Option α}{P:α->Prop} (h:n<=1000000) (hx:Ok x P):Ok (grd (AL n) x) P:=by rw[Ap fM];exact hx
def AJD:List B8:=[[97,46,101,120,97,109,112,108,101],[98,46,101,120,97,109,112,108,101],[99,46,101,120,97,109,112,108,101,58,56,52,52,51],[100,46,101,120,97,109,112,108,101]]
def ANo:List B8:=[[97,46,101,120,97,109,112,108,101],[98,46,101,120,97,109,112,108,101],[99,46,101,120,97,109,112,108,101,37,51,65,56,52,52,51],[100,46,101,120,97,109,112,108,101]]
def Tx (l:List B8) (m:List B8):List B8:=l.flatMap λa=>m.map λb=>a++b
def LY{l m:List B8}{a b:B8} (h1:a∈l) (h2:b∈m):a++b∈Tx l m:=d8.2 ⟨a,h1,bv.2 ⟨b,h2,rfl⟩⟩
def Aao:List B8:=Tx (Tx (Tx [[97,99,99,116,58],[65,67,67,84,58]] [[98,111,98],[97,109,121],[120,37,50,102,121],[99,43,100]]) [[64]]) [[97,46,101,120,97,109,112,108,101],[66,46,101,120,97,109,112,108,101],[99,46,101,120,97,109,112,108,101]]++(Tx (Tx (Tx [[109,97,105,108,116,111,58]] [[98,111,98],[37,54,49,109,121],[99,43,100]]) [[64]]) [[97,46,101,120,97,109,112,108,101],[98,46,69,120,97,109,112,108,101]]++(Tx (Tx [[104,116,116,112,115,58,47,47]] AJD) [[],[47],[47,117,47,98,111,98],[47,46,47,120,63,121,61,49],[47,126,97,35,109,101]]++Tx (Tx [[100,105,100,58,119,101,98,58]] ANo) [[],[58,117],[58,117,58,98,111,98],[58,97,37,55,101,98]]))
def Ayq{d:AI} (hd:Gd d):Ok (UM N d) λr=>r.1∈Aao/\Gd r.2:=by
 unfold UM Wj Aao;simp only[aZ];refine .bind (Q:=λr=>r.1∈AJD/\Gd r.2) ?_ λy ⟨y1,y2⟩=>?_;·exact .letL (.bind (oneG hd fO) λr hr=>.ret hr)
 refine .bind (XR y2 (n:=6) fO) λz ⟨_,z1⟩=>?_;have hlen: ∀s,s∈AJD->s.length<=30:=fO;have hy:=hlen _ y1;refine .meet (λ_=>True) (λj _=>?_) λk' hk=>.ite (λ_=>hk _ trivial) λ_=>hk _ trivial;refine .ite (λ_=>?_) λ_=>.ite (λ_=>?_) λ_=>.ite (λ_=>?_) λ_=>?_;·refine .letL (.bind (oneG z1 fO) λa ⟨a1,a2⟩=>?_);refine .letL (.bind (oneG a2 fO) λb ⟨b1,b2⟩=>?_);have ha:a.1.length<=30:=(show∀s,s∈([[97,99,99,116,58],[65,67,67,84,58]]:List B8)->s.length<=30 by decide) _ a1;have hb:b.1.length<=30:=(show∀s,s∈([[98,111,98],[97,109,121],[120,37,50,102,121],[99,43,100]]:List B8)->s.length<=30 by decide) _ b1;refine ACB fM (ACB fP ?_);refine .letL (.bind (oneG b2 fO) λc ⟨c1,c2⟩=>?_);have hc:c.1.length<=30:=(show∀s,s∈([[97,46,101,120,97,109,112,108,101],[66,46,101,120,97,109,112,108,101],[99,46,101,120,97,109,112,108,101]]:List B8)->s.length<=30 by decide) _ c1;exact ACB fP (.ret ⟨.inl (LY (LY (LY a1 b1) fO) c1),c2⟩)
 ·refine .letL (.bind (oneG z1 fO) λa ⟨a1,a2⟩=>?_);have ha:a.1.length<=30:=(show∀s,s∈([[98,111,98],[37,54,49,109,121],[99,43,100]]:List B8)->s.length<=30 by decide) _ a1;refine ACB fP (ACB fP ?_);refine .letL (.bind (oneG a2 fO) λc ⟨c1,c2⟩=>?_);have hc:c.1.length<=30:=(show∀s,s∈([[97,46,101,120,97,109,112,108,101],[98,46,69,120,97,109,112,108,101]]:List B8)->s.length<=30 by decide) _ c1;exact ACB fP (.ret ⟨.inr (.inl (LY (LY (LY fO a1) fO) c1)),c2⟩)
 ·refine ACB fP ?_;refine .letL (.bind (oneG z1 fO) λa ⟨a1,a2⟩=>?_);have ha:a.1.length<=30:=(show∀s,s∈([[],[47],[47,117,47,98,111,98],[47,46,47,120,63,121,61,49],[47,126,97,35,109,101]]:List B8)->s.length<=30 by decide) _ a1;exact ACB fP (.ret ⟨.inr (.inr (.inl (LY (LY fO y1) a1))),a2⟩)
 ·refine .meet (λj=>j∈ANo/\j.length<=30) (λj ⟨hj,hj2⟩=>?_) λk' hk=>.ite (λ_=>hk _ fO) λhne=>hk _ ?_;·refine ACB fP ?_;refine .letL (.bind (oneG z1 fO) λa ⟨a1,a2⟩=>?_);have ha:a.1.length<=30:=(show∀s,s∈([[],[58,117],[58,117,58,98,111,98],[58,97,37,55,101,98]]:List B8)->s.length<=30 by decide) _ a1;exact ACB fP (.ret ⟨.inr (.inr (.inr (LY (LY fO hj) a1))),a2⟩)
  ·refine⟨?_,hy⟩;revert hne;generalize y.1=h at y1;have: ∀s,s∈AJD->(s==([99,46,101,120,97,109,112,108,101,58,56,52,52,51]:B8))=false->s∈ANo:=fO;exact this h y1
def A2A (a0:List Int) (h: ∀a,a∈a0->0<=a/\a<=255):Ok (SX N a0) Gd:=by
 unfold SX;have e:(if 200<(a0.length:Int)then 200 else(a0.length:Int))=((min 200 a0.length:Nat):Int):=by split<;>omega
 rw[e,show(0:Int)=((0:Nat):Int)from rfl,Av _ 0 _ (aM _) fM,aa];refine .ret ⟨λa ha=>h a ?_,?_⟩;·exact cy (dv ha)
 ·simp only[bb,aG];omega
end
theorem NS (c:UInt8):AJ c=(c.toNat:Int):=rfl
theorem Rk (c:UInt8):Fg (AJ c)=c:=by simp[Fg,AJ]
theorem toNat_ofNat{n:Nat} (h:n<256):(UInt8.ofNat n).toNat=n:=by simp_all
theorem AWN{n:Int} (h:0<=n/\n<256):wr .u8 n=n:=by grind[wr,IntKind.wrap,IntKind.bits,IntKind.signed]
theorem Fw{n:Int} (h:0<=n/\n<18446744073709551616):wr .u64 n=n:=by grind[wr,IntKind.wrap,IntKind.bits,IntKind.signed]
def AZq{n:Nat}:wr .u8 (n:Int)=((n % 256:Nat):Int):=by grind[wr,IntKind.wrap,IntKind.bits,IntKind.signed]
section
variable{N:Nat}
end
section
variable{N:Nat}
def O8{α:Type}{l t:List α}{x:α}{i j:Nat} (h:l.drop i=t) (hx:t[j]?=some x):idx l ((i+j:Nat):Int)=some x:=by rw[D7,<-bV,h,hx]
def Nq{α:Type}{l t:List α}{i:Nat} (h:l.drop i=t) (hi:i<=l.length):l.length=i+t.length:=by have:=br List.length h;grind
section
variable{l t:B8}{i:Nat}{k13:Int->Option (Int×Int×Int)}
end
end
section
variable{N:Nat}
def Bl{α:Type} [DecidableEq α]{f g:Nat->α} (h:(List.range 256).all (λn=>decide (f n=g n))=true) (c:UInt8):f c.toNat=g c.toNat:=by have:=aK.1 h c.toNat (eJ.2 c.toNat_lt);grind
def VU (n:Nat):Bool:=(decide (48<=n)&&decide (n<=57))||(decide (65<=n)&&decide (n<=70))||(decide (97<=n)&&decide (n<=102))
def J5 (c:UInt8):Bool:=VU c.toNat
def Gt (n:Nat):Nat:=if n<=57 then n-48 else if n<=70 then n-55 else n-87
def WW (c:UInt8) (h:J5 c=true):Gt c.toNat<16:=by simp only[J5,VU,cf,aw,au]at h;unfold Gt;split<;>(grind)<;>omega
def ACQ (c:UInt8):Ki N (AJ c)=some (J5 c):=Bl (f:=λn=>Ki N (n:Int)) (g:=λn=>some (VU n)) (by kernel_rfl) c
def ACN (c:UInt8):Ju N (AJ c)=some (J5 c):=Bl (f:=λn=>Ju N (n:Int)) (g:=λn=>some (VU n)) (by kernel_rfl) c
def Acx (c:UInt8) (h:J5 c=true):NC N (AJ c)=some ((Gt c.toNat:Nat):Int):=by have:=Bl (f:=λn=>if VU n=true then NC N (n:Int)else none) (g:=λn=>if VU n=true then some ((Gt n:Nat):Int)else none) (by kernel_rfl) c;simp only[show VU c.toNat=true from h,az]at this;exact this
def Avq (c:UInt8) (h:J5 c=true):(if decide (AJ c>57)=true then wr .u64 (wr .u64 (wr .u64 (Qw .u8 (AJ c) 32)-97)+10)else wr .u64 (wr .u8 (AJ c-48)))=((Gt c.toNat:Nat):Int):=by have:=Bl (f:=λn=>if VU n=true then(if decide ((n:Int)>57)=true then wr .u64 (wr .u64 (wr .u64 (Qw .u8 (n:Int) 32)-97)+10)else wr .u64 (wr .u8 ((n:Int)-48)))else 0) (g:=λn=>if VU n=true then((Gt n:Nat):Int)else 0) (by kernel_rfl) c;simp only[show VU c.toNat=true from h,az]at this;exact this
def YD (n:Nat):B8->Nat|[]=>n|c::l=>YD (n * 16+Gt c.toNat) l
def AxY (k2:Unit->Option (Int×Int)): ∀l:B8,Bd N k2 l=if l.all J5=true then k2 ()else some (0,1)|[]=>by rw[Bd];rfl|c::l=>by rw[Bd,ACQ,aa,AxY k2 l];cases h:J5 c<;>simp[h]
def Axa (k2:Unit->Option (Int×Int)): ∀l:B8,EL N 16 k2 l=if l.all J5=true then k2 ()else some (0,1)|[]=>by grind[EL]|c::l=>by rw[EL,AB,show((16:Int)==10)=false from rfl,show((16:Int)==16)=true from rfl];simp only[ap,aA,az];rw[ACN,aa,Axa k2 l];cases h:J5 c<;>simp[h]
end
section
variable{N:Nat}
section
variable{l:B8}
end
end
section
variable{N:Nat}
theorem Ht{α:Type} (p:α->Bool) (t:List α):t.take (t.takeWhile p).length=t.takeWhile p:=(fb.1 (List.takeWhile_prefix p)).symm
theorem UK{α:Type} (p:α->Bool) (t:List α):(t.takeWhile p).length<=t.length:=(fi p).length_le
def Fj (c:UInt8):Bool:=decide (48<=c.toNat)&&decide (c.toNat<=57)
def AC3 (n:Nat):Bool:=(decide (65<=n)&&decide (n<=90))||(decide (97<=n)&&decide (n<=122))
def K6 (c:UInt8):Bool:=AC3 c.toNat
def Wn (c:UInt8):Cf N (AJ c)=some (Fj c):=Bl (f:=λn=>Cf N (n:Int)) (g:=λn=>some (decide (48<=n)&&decide (n<=57))) (by kernel_rfl) c
def UX (c:UInt8):CQ N (AJ c)=some (Fj c):=Bl (f:=λn=>CQ N (n:Int)) (g:=λn=>some (decide (48<=n)&&decide (n<=57))) (by kernel_rfl) c
def Tv (c:UInt8):Fq N (AJ c)=some (K6 c):=Bl (f:=λn=>Fq N (n:Int)) (g:=λn=>some (AC3 n)) (by kernel_rfl) c
def UL (c:UInt8):Ex N (AJ c)=some (K6 c):=Bl (f:=λn=>Ex N (n:Int)) (g:=λn=>some (AC3 n)) (by kernel_rfl) c
def AS0 (c:UInt8) (k2:Unit->Option Bool) (h:k2 ()=some false): ∀l:B8,Kg N (AJ c) k2 l=some (l.contains c)
 |[]=>by grind[Kg]
 | x::l=>by
  rw[Kg,AS0 c k2 h l,bA];by_cases e:x=c;·grind
  ·have e1: ¬c=x:=λh=>e h.symm;have:(AJ x==AJ c)=false:=by have: ¬x.toNat=c.toNat:=λh=>e (dN.1 h);simp only[AJ,bB,eA];omega
   grind
def YS (c:UInt8) (l:B8) (h:l.length<=1000):F5 N (AJ c) l=some (l.contains c):=by unfold F5;rw[AB,Ap fM];exact AS0 c _ rfl l
def KP (l:B8) (c:UInt8):strings_IndexByte N l (AJ c)=some (Go.Lib.indexByte l c):=by grind[strings_IndexByte,ET,Rk]
section
variable{l:B8}
variable{t:B8}{i:Nat}
end
end
section
variable{N:Nat}
def KD{α β:Type}{K:α->Option β}{body:(α->Option β)->Option β}{a:α}{d:JD α} (h: ∀k:α->Option β,body k=k a):AA K body d=K a:=h K
def PG: ∀(l:B8) (c:UInt8),Go.Lib.indexByte l c=if l.contains c=true then(((l.takeWhile (· !=c)).length:Nat):Int)else-1
 |[],c=>rfl
 | x::l,c=>by
  have ih:=PG l c;rw[Go.Lib.indexByte,bA];by_cases e:x=c;·simp_all
  ·have e1:(c==x)=false:=by grind
   simp_all
def MN{α:Type} (p:α->Bool) (l:List α):l.drop (l.takeWhile p).length=l.dropWhile p:=by
 have:=bh (p:=p) (l:=l);conv=>lhs;rw[<-this]
 rw[cv,bL fN,this];simp
def Ac (c:UInt8) (l:B8):B8×B8×Bool:=if l.contains c=true then(l.takeWhile (· !=c),(l.dropWhile (· !=c)).drop 1,true)else(l,[],false)
theorem PE{c:UInt8}: ∀ {l:B8},l.contains c=true->(l.takeWhile (· !=c)).length<l.length
 |[],h=>by cases h
 | x::l,h=>by
  rw[bg];by_cases e:x=c;·grind
  ·have e3:(x !=c)=true:=by grind
   rw[bA]at h;have e1:(c==x)=false:=by grind
   rw[e1,bk]at h;rw[e3];have:=PE h;simp_all
def P6 (c:UInt8) (l:B8) (hb:l.length<=2^60):strings_Cut N l [c]=some (Ac c l):=by
 unfold strings_Cut Es BH Ac;have hI:(if((([c]:B8).length:Int)==1)=true then some (Go.Lib.indexByte l (([c]:B8).headD 0))else grd (l.length<4294967281) (some (Go.Lib.index l [c])))=some (Go.Lib.indexByte l c):=an (by rfl);rw[hI,aa,PG];by_cases h:l.contains c=true
 ·have hlt:=PE h;simp only[h,az];generalize hn:(l.takeWhile (· !=c)).length=n at *;have w:wr .i64 ((n:Int)+(([c]:B8).length:Int))=((n+1:Nat):Int):=by grind[Ak]
  rw[an fN,show(0:Int)=((0:Nat):Int)from rfl,Av l 0 n fM fM,aa,w,Av l (n+1) l.length fM fM,aa,aa];rw[aN,bw,<-hn,Ht,bc fN,<-aT,MN]
 simp_all
theorem FZ (c:UInt8) (l:B8):(Ac c l).1.length<=l.length/\(Ac c l).2.1.length<=l.length:=by grind[Ac,UK,List.dropWhile_sublist,List.length_drop]
def ACW (x c:UInt8):(AJ x==AJ c)=(x==c):=by
 by_cases h:x=c;·grind
 ·have: ¬x.toNat=c.toNat:=λe=>h (dN.1 e);have h2:(x==c)=false:=by grind
  rw[h2];simp only[AJ,bB,eA];omega
def ASY{α:Type} (x:α) (l:List α):sub (x::l) 1 (((x::l).length:Nat):Int)=some l:=by have:=Av (x::l) 1 (x::l).length fN (av _);simp_all
def ABZ (p:UInt8->Bool) (l:B8):B8:=(l.reverse.dropWhile p).reverse
def AEF (p:UInt8->Bool) (l:B8) (x:UInt8):ABZ p (l++[x])=if p x=true then ABZ p l else l++[x]:=by unfold ABZ;rw[List.reverse_append,List.reverse_cons,List.reverse_nil,bl,fr,bX];split<;>simp
def Akk (p:UInt8->Bool) (l:B8):(ABZ p l).length<=l.length:=by grind[ABZ,List.dropWhile_sublist]
def AU4{α:Type} (l:List α) (x:α) (hb:l.length<=2^60):sub (l++[x]) 0 (wr .i64 ((((l++[x]).length:Nat):Int)-1))=some l:=by rw[Ak (by grind),show(((l++[x]).length:Nat):Int)-1=(l.length:Int) by simp,show(0:Int)=((0:Nat):Int)from rfl,Av _ 0 l.length fM fN];simp
def AV7{α:Type} (l:List α) (x:α) (hb:l.length<=2^60):idx (l++[x]) (wr .i64 ((((l++[x]).length:Nat):Int)-1))=some x:=by rw[Ak (by grind),show(((l++[x]).length:Nat):Int)-1=(l.length:Int) by simp,D7];simp
def AWc (as:List Bool) (set:B8):Prop:=as.length=256/\ ∀c:UInt8,as[c.toNat]?=some (set.contains c)
def AXQ (k2:List Bool->Option (List Bool×Bool)) (done:B8): ∀(l:B8) (done:B8) (bn:List Bool),(∀c∈l,c.toNat<128)->AWc bn done->∃as,Ce N k2 l bn=k2 as/\AWc as (done++l)
 |[],done,bn,hl,hs=>⟨bn,by rw[Ce],by grind⟩
 | x::l,done,bn,hl,hs=>by
  have hx:=hl x fN;have c1: ¬AJ x>=128:=by grind[AJ]
  obtain⟨as,h1,h2⟩:=AXQ k2 done l (done++[x]) (bn.set x.toNat true) (λc hc=>hl c (by grind)) ⟨by simp[hs.1],λc=>by
   rw[dt];by_cases e:x.toNat=c.toNat;·have:x=c:=dN.1 e;subst this;rw[an rfl,an (by rw[hs.1];omega)];simp
   ·rw[aj e,hs.2 c];grind⟩;refine⟨as,?_,by grind⟩;rw[Ce,aj (by grind),AP (by grind[AJ]),AP (by rw[hs.1];omega)];exact h1
def Amt (set:B8) (hl: ∀c∈set,c.toNat<128) (hb:set.length<=1000): ∃as,strings_makeASCIISet N set=some (as,true)/\AWc as set:=by unfold strings_makeASCIISet;rw[AB,AP (by grind[AL])];obtain⟨as,h1,h2⟩:=AXQ (N:=N) (λj1=>grd (j1.length=256) (some (j1,true))) [] set [] (AQU 256) hl ⟨ADj,λc=>by have:=c.toNat_lt;rw[AQU,List.getElem?_replicate,an fM];rfl⟩;exact⟨as,by rw[h1,AP h2.1],h2⟩
def AU9{as:List Bool}{set:B8} (h:AWc as set) (c:UInt8):Ef N as (AJ c)=some (set.contains c,as):=by have:=c.toNat_lt;unfold Ef;rw[AP (by grind[AJ]),NS,D7,h.2 c];rfl
def Apw (n:Nat):Nat:=if 65<=n/\n<=90 then n+32 else n
def DL (c:UInt8):UInt8:=UInt8.ofNat (Apw c.toNat)
def AT5 (l:B8) (hb:l.length<=2^60) (k2:List Int->Option B8): ∀(t pre:B8),l=pre++t->HV N l k2 t (pre.length:Int) (List.map AJ (pre.map DL)++List.map AJ t)=k2 (List.map AJ (l.map DL))
 |[],pre,h=>by grind[HV]
 | c::t,pre,h=>by
  have hlen:pre.length<l.length:=by grind
  have hc:=c.toNat_lt;rw[HV];refine(KD (a:=List.map AJ (pre.map DL)++(AJ (DL c)::List.map AJ t)) λk7=>?_).trans ?_
  ·rw[AP fM,aH];have hi:idx (List.map AJ (pre.map DL)++AJ c::List.map AJ t) (pre.length:Int)=some (AJ c):=by grind[Wu,List.map,AJ,DL]
   rw[hi,aa];refine(KD (a:=decide (65<=c.toNat/\c.toNat<=90)) λk12=>?_).trans ?_
   ·by_cases h1:65<=c.toNat
    ·have:(65:Int)<=AJ c:=by grind[AJ]
     rw[an (aC this)];congr 1;simp only[AJ,h1,dW];congr 1;simp only[eq_iff_iff];omega
    ·have: ¬(65:Int)<=AJ c:=by grind[AJ]
     rw[aj (by grind),aF (λh=>h1 h.1)]
   try dsimp only
   by_cases h1:65<=c.toNat/\c.toNat<=90
   ·rw[an (aC h1),AP (by simp<;>omega)];have e:DL c=UInt8.ofNat (c.toNat+32):=by simp_all[DL,Apw]
    have e2:AJ (DL c)=wr .u8 (AJ c+32):=by grind[AWN,AJ,toNat_ofNat]
    simp_all
   ·rw[aj (by grind)];have e:DL c=c:=by unfold DL Apw;rw[aj h1];simp
    rw[e]
  ·try dsimp only
   have:=AT5 l hb k2 t (pre++[c]) (by grind);simp_all
def lower_eq (l:B8) (hb:l.length<=2^60):FT N l=some (l.map DL):=by unfold FT;rw[AB,AP (by grind[AL])];have:=AT5 (N:=N) l hb (λj1=>grd (l.length<=j1.length/\AL l.length) (some (List.map Fg (List.take l.length j1)))) l [] rfl;simp only[cw,bl,aq]at this;rw[show(0:Int)=((0:Nat):Int)from rfl,this,AP (by grind[AL]),bc fN];congr 1;induction l with|nil=>rfl|cons c l ih=>simp[Rk]
def ABQ: ∀l:B8,List.map Fg (List.map AJ l)=l|[]=>rfl|c::l=>by rw[aH,aH,Rk,ABQ l]
def ADA:Nat->Nat->B8->B8|0,_,acc=>acc|k+1,n,acc=>if n / 10=0 then UInt8.ofNat (48+n % 10)::acc else ADA k (n / 10) (UInt8.ofNat (48+n % 10)::acc)
def fmtS (n:Nat):B8:=ADA 20 n []
theorem AUY: ∀(k n:Nat) (acc:B8),(ADA k n acc).length<=acc.length+k
 |0,n,acc=>by simp[ADA]
 |k+1,n,acc=>by
  rw[ADA];split;·simp<;>omega
  ·have:=AUY k (n / 10) (UInt8.ofNat (48+n % 10)::acc);grind
theorem Tt (n:Nat):(fmtS n).length<=20:=by grind[AUY,fmtS]
def A0A (n:Nat):wr .u64 ((n:Int).tdiv 10)=if n<2^64 then((n / 10:Nat):Int)else wr .u64 ((n:Int).tdiv 10):=by grind[Int.tdiv_eq_ediv_of_nonneg,Fw]
def AxS{n:Nat} (h:n<2^64):wr .u64 ((n:Int).tdiv 10)=((n / 10:Nat):Int):=by rw[A0A,an h]
def Axh{n:Nat}:wr .u64 (48+(n:Int).tmod 10)=((48+n % 10:Nat):Int):=by grind[Int.tmod_eq_emod_of_nonneg,Fw]
theorem Yk: ∀(k n:Nat) (acc:B8),n<10^k->n<2^64->acc.length+k<=1000->∀m,k<=m->0<k->EM N m (n:Int) acc=some (ADA k n acc)
 |0,n,acc,h,h2,ha,m,hm,hk=>by omega
 | k+1,n,acc,h,h2,ha,m+1,hm,hk=>by
  rw[EM,AxS h2,Axh,ADA];rw[AP (by grind[AL])];have e:(List.map Fg [wr .u8 ((48+n % 10:Nat):Int)]++acc)=UInt8.ofNat (48+n % 10)::acc:=by rw[AZq,dA (show 48+n % 10<256 by omega)];rfl
  rw[e];by_cases c:n / 10=0;·rw[an (by grind),an c]
  ·have c': ¬((((n / 10:Nat):Int))==0)=true:=by grind
   rw[aj c',aj c];have hk2:0<k:=by grind
   exact Yk k (n / 10) _ fM fM (by grind) m fM hk2
def ADr (n:Nat) (h:n<2^64) (hN:20<=N):Gz N (n:Int)=some (fmtS n):=by grind[Gz,fmtS,Yk]
def AV1 (a:Nat) (x:Int) (acc:List Int):(List.replicate (a+1) 0++acc).set a x=List.replicate a 0++x::acc:=by rw[List.replicate_succ',aJ];simp
def Zm (k2:Int×Int×List Int->Option B8) (R:B8->Option B8) (hk: ∀(n a:Nat) (acc:B8),n<10->a<=19->acc.length+a=19->k2 ((n:Int),(a:Int),List.replicate (a+1) 0++acc.map AJ)=R (UInt8.ofNat (48+n)::acc)):∀(j n a:Nat) (acc:B8),n<10^(j+1)->n<2^64->j<=a->a<=19->acc.length+a=19->∀m,j<m->FJ N k2 m (n:Int) (a:Int) (List.replicate (a+1) 0++acc.map AJ)=R (ADA (j+1) n acc)
 |j,n,a,acc,h,h2,hj,ha,hl,0,hm=>by omega
 | j,n,a,acc,h,h2,hj,ha,hl,m+1,hm=>by
  rw[FJ,ADA];by_cases c:n / 10=0;·have c': ¬(n:Int)>=10:=fM;rw[aj (by grind),an c,dA fM];grind
  ·have c':(n:Int)>=10:=fM;rw[an (aC c'),aj c];obtain⟨j,rfl⟩: ∃i,j=i+1:=⟨j-1,by grind⟩;obtain⟨a,rfl⟩: ∃i,a=i+1:=⟨a-1,fM⟩;rw[AP fM,AP (by simp<;>omega),AxS h2,Axh,AZq,dA (show 48+n % 10<256 by omega),Ak fM];rw[show((a+1:Nat):Int)-1=(a:Int) by simp,bG,AV1];have e:List.replicate (a+1) 0++((48+n % 10:Nat):Int)::List.map AJ acc=List.replicate (a+1) 0++List.map AJ (UInt8.ofNat (48+n % 10)::acc):=by rw[aH,NS,toNat_ofNat fM]
   rw[e];exact Zm k2 R hk j (n / 10) a _ fM fM fM fM (by grind) m fM
def ADs (n:Nat) (h:n<2^64) (hN:20<=N):Fu N (n:Int)=some (fmtS n):=by
 unfold Fu fmtS;rw[AB];refine Zm (N:=N) _ some (λn a acc hn ha hl=>?_) 19 n 19 [] fM h fM fM rfl N fM;have w:wr .u8 (wr .u64 (48+(n:Int)))=((48+n:Nat):Int):=by rw[Fw fM,show(48:Int)+(n:Int)=((48+n:Nat):Int) by simp,AZq,dA fM]
 simp only[bG,w];rw[AV1];rw[AP fM,AP (by simp<;>omega),AP fM,AP (by grind[AL])];congr 1;rw[cv,bL fN,cu,dh,aN,bl,bc (by grind),aH,ABQ];rfl
end
section
variable{N:Nat}
def Et:Nat->B8->Nat|n,[]=>n|n,c::l=>Et (n * 10+Gt c.toNat) l
def ADN: ∀(l:B8) (n:Nat),n<=Et n l|[],n=>by simp_all[Et]|c::l,n=>by have:=ADN l (n * 10+Gt c.toNat);grind[Et]
def RZ{c:UInt8} (h:Fj c=true):48<=c.toNat/\c.toNat<=57:=by grind[Fj]
def QU{c:UInt8} (h:Fj c=true):J5 c=true/\Gt c.toNat=c.toNat-48:=by have:=RZ h;simp_all[J5,VU,Gt]
def Axo (k2:Unit->Option (Int×Int)): ∀l:B8,BN N k2 l=if l.all Fj=true then k2 ()else some (0,1)|[]=>by grind[BN]|c::l=>by rw[BN,Wn,aa,Axo k2 l];cases h:Fj c<;>simp[h]
def AxI{m:Nat} (hm:m<=18446744073709551615) (k9:Int->Option (Int×Int)): ∀(l:B8) (n:Nat),l.all Fj=true->n<=m->BL N 10 (m:Int) k9 l (n:Int)=if Et n l<=m then k9 ((Et n l:Nat):Int)else some (0,4)
 |[],n,_,hn=>by simp_all[BL,Et]
 |c::l,n,h,hn=>by
  simp only[aQ,aw]at h;have hd:Gt c.toNat<=9:=by have:=RZ h.1;rw[(QU h.1).2];omega
  obtain⟨hx,hv⟩:=QU h.1;have hge:=ADN l (n * 10+Gt c.toNat);rw[BL,Acx c hx,aa,AB,AP fO];have w3:wr .u64 (18446744073709551615-((Gt c.toNat:Nat):Int))=18446744073709551615-((Gt c.toNat:Nat):Int):=Fw fM;rw[w3,bF fM,Fw (n:=(18446744073709551615-((Gt c.toNat:Nat):Int)) / 10) fM,Et];by_cases c1:(n:Int)>(18446744073709551615-((Gt c.toNat:Nat):Int)) / 10;·rw[an (aC c1),aj fM];rfl
  have w1:wr .u64 ((n:Int) * 10)=((n * 10:Nat):Int):=by grind[Fw]
  have w2:wr .u64 (((n * 10:Nat):Int)+((Gt c.toNat:Nat):Int))=((n * 10+Gt c.toNat:Nat):Int):=by grind[Fw]
  rw[aj (by grind),w1,w2];by_cases c2:n * 10+Gt c.toNat<=m;·have c3: ¬(((n * 10+Gt c.toNat:Nat):Int)>(m:Int)):=fM;rw[aF c3];simp only[ap,aA];exact AxI hm k9 l _ h.2 c2
  ·have c3:(((n * 10+Gt c.toNat:Nat):Int)>(m:Int)):=fM;rw[aC c3,aj fM];rfl
def AFv{m:Nat} (hm:m<=18446744073709551615) (l:B8) (hb:l.length<=2^60):IL N l (m:Int)=some (if l=[]then(0,3)else if l.all Fj=true then(if Et 0 l<=m then(((Et 0 l:Nat):Int),0)else(0,4))else(0,1)):=by
 unfold IL FY;by_cases h:l=[];·grind
 ·rw[aj (by grind),aj h,AB,AP (by grind[AL]),Axo];by_cases h1:l.all Fj=true;·rw[an h1,an h1,AB,AP (by grind[AL]),show(0:Int)=((0:Nat):Int)from rfl,AxI hm _ l 0 h1 fM];split<;>rfl
  ·rw[aj h1,aj h1];rfl
section
variable{s sg W F FR P EX:B8}
end
end
section
variable{N:Nat}
def AEK (k2:Unit->Option Bool): ∀l:B8,BU N k2 l=if l.all Fj=true then k2 ()else some false|[]=>by grind[BU]|c::l=>by rw[BU,Wn,aa,AEK k2 l];cases h:Fj c<;>simp[h]
def Rx (l:B8) (hb:l.length<=2^60):Ky N l=some (!l.isEmpty&&l.all Fj):=by unfold Ky F4;cases l with|nil=>rfl|cons c l=>rw[aj fN,AB,Ap fM,AEK];cases h:(c::l).all Fj<;>simp
def ZJ (k2:Unit->Option Bool): ∀l:B8,GJ N k2 l=if l.all Fj=true then k2 ()else some false|[]=>by grind[GJ]|c::l=>by rw[GJ,UX,aa,ZJ k2 l];cases h:Fj c<;>simp[h]
def YB (l:B8) (hb:l.length<=2^60):IK N l=some (!l.isEmpty&&l.all Fj):=by unfold IK;rw[AB,Ap fM,ZJ];cases l with|nil=>rfl|cons c l=>cases h:(c::l).all Fj<;>simp
def AxR (k2:Unit->Option (Int×Int)): ∀l:B8,EL N 10 k2 l=if l.all Fj=true then k2 ()else some (0,1)|[]=>by grind[EL]|c::l=>by rw[EL,AB,show((10:Int)==10)=true from rfl,show((10:Int)==16)=false from rfl,an rfl,UX,aa,AxR k2 l];cases h:Fj c<;>simp[h]
def Ax0{m:Nat} (hm:m<=18446744073709551615) (hm9:9<=m) (k9:Int->Option (Int×Int)): ∀(l:B8) (n:Nat),l.all Fj=true->n<=m->Cq N 10 (m:Int) k9 l (n:Int)=if Et n l<=m then k9 ((Et n l:Nat):Int)else some (0,4)
 |[],n,_,hn=>by simp_all[Cq,Et]
 | c::l,n,h,hn=>by
  simp only[aQ,aw]at h;have hr:=RZ h.1;have hd:Gt c.toNat<=9:=by rw[(QU h.1).2];omega
  obtain⟨hx,hv⟩:=QU h.1;have c57: ¬(AJ c>57):=by grind[NS]
  have hdv:wr .u64 (wr .u8 (AJ c-48))=((Gt c.toNat:Nat):Int):=by grind[NS,AWN,Fw]
  rw[Cq];dsimp only[AB];rw[aj (by grind),hdv,AP fO,bF fM];have w3:wr .u64 ((m:Int)-((Gt c.toNat:Nat):Int))=(m:Int)-((Gt c.toNat:Nat):Int):=Fw fM;have w4:wr .u64 ((m:Int) / 10)=(m:Int) / 10:=Fw fM;rw[w3,w4,Et];have hge:=ADN l (n * 10+Gt c.toNat);by_cases c1:(n:Int)>(m:Int) / 10;·rw[an (aC c1),an rfl,aj fM]
  ·have w1:wr .u64 ((n:Int) * 10)=((n * 10:Nat):Int):=by grind[Fw]
   rw[aj (by grind),w1];by_cases c2:((n * 10:Nat):Int)>(m:Int)-((Gt c.toNat:Nat):Int);·rw[an (aC c2),an rfl,aj fM]
   ·have w2:wr .u64 (((n * 10:Nat):Int)+((Gt c.toNat:Nat):Int))=((n * 10+Gt c.toNat:Nat):Int):=by grind[Fw]
    rw[aj (by grind),aj (by grind),w2];exact Ax0 hm hm9 k9 l _ h.2 fM
def XF (m:Nat) (l:B8):Int×Int:=if l=[]then(0,3)else if l.all Fj=true then(if Et 0 l<=m then(((Et 0 l:Nat):Int),0)else(0,4))else(0,1)
def ADp{m:Nat} (hm:m<=18446744073709551615) (hm9:9<=m) (l:B8) (hb:l.length<=2^60):Kl N l 10 (m:Int)=some (XF m l):=by
 unfold Kl XF;by_cases h:l=[];·grind
 ·rw[aj (by grind),aj h,AB,Ap fM,AxR];by_cases h1:l.all Fj=true;·rw[an h1,an h1,AB,Ap fM,show(0:Int)=((0:Nat):Int)from rfl,Ax0 hm hm9 _ l 0 h1 fM];split<;>rfl
  ·rw[aj h1,aj h1]
def Dw (m:Nat) (l:B8):Int×Int:=if l=[]then(0,3)else if l.all Fj=true then(if 1<l.length/\l.head?=some 48 then(0,6)else if Et 0 l<=m then(((Et 0 l:Nat):Int),0)else(0,4))else(0,1)
def b48 (c:UInt8):(AJ c==48)=decide (c=48):=by have:=Bl (f:=λn=>((n:Int)==48)) (g:=λn=>decide (UInt8.ofNat n=48)) (by kernel_rfl) c;simp only[bP]at this;exact this
def ADq (c:UInt8) (l:B8) (e:Int×Int):(if decide (((c::l).length:Int)>1)=true then(idx (c::l) 0).bind λx=>if(AJ x==48)=true then(some (0,6):Option (Int×Int))else some (e.1,e.2)else if false=true then some (0,6)else some (e.1,e.2))=some (if 1<(c::l).length/\(c::l).head?=some 48 then(0,6)else e):=by
 by_cases hl:1<(c::l).length
 ·rw[an (by simp only[au];omega),show idx (c::l) 0=some c from rfl,aa,b48];by_cases hc:c=48;·rw[aC hc,an rfl,an ⟨hl,by simp[hc]⟩]
  ·rw[aF hc,aj fO,aj (by simp[hc])]
 simp_all
def YF{m:Nat} (hm:m<=18446744073709551615) (l:B8) (hb:l.length<=2^60):IR N l (m:Int)=some (Dw m l):=by
 unfold IR Dw;dsimp only[AB];rw[Rx l hb,aa,AFv hm l hb,aa];cases l with
 |nil=>rfl
 |cons c l=>
  simp only[reduceCtorEq,aA];obtain⟨b,h⟩: ∃b,(c::l).all Fj=b:=⟨_,rfl⟩;rw[h];cases b;·simp
  ·rw[an (by rfl),an rfl,an rfl];have hd: ∀e:Int×Int,(if decide (((c::l).length:Int)>1)=true then(idx (c::l) 0).bind λx=>if(AJ x==48)=true then(some (0,6):Option (Int×Int))else some (e.1,e.2)else if false=true then some (0,6)else some (e.1,e.2))=some (if 1<(c::l).length/\(c::l).head?=some 48 then(0,6)else e):=ADq c l;simp_all
def ADW{m:Nat} (hm:m<=18446744073709551615) (hm9:9<=m) (l:B8) (hb:l.length<=2^60):M0 N l (m:Int)=some (Dw m l):=by
 have hp:=ADp (N:=N) hm hm9 l hb;unfold XF at hp;unfold M0 Dw;rw[hp,aa];dsimp only[AB];cases l with
 |nil=>rfl
 | cons c l=>
  simp only[reduceCtorEq,aA];obtain⟨b,h⟩: ∃b,(c::l).all Fj=b:=⟨_,rfl⟩;rw[h];cases b;·rfl
  ·simp only[az];have hd:=ADq c l;by_cases hv:Et 0 (c::l)<=m;·simp_all
   ·rw[aj hv,aj fN,an (by rfl)];grind
def APB (c:UInt8):Bool:=K6 c||(Fj c||decide (c=45))
def b45 (c:UInt8):(AJ c==45)=decide (c=45):=by have:=Bl (f:=λn=>((n:Int)==45)) (g:=λn=>decide (UInt8.ofNat n=45)) (by kernel_rfl) c;simp only[bP]at this;exact this
def AGc (k8:Unit->Option Bool): ∀l:B8,Ih N k8 l=if l.all APB=true then k8 ()else some false|[]=>by grind[Ih]|c::l=>by rw[Ih,AB,Tv,aa,Wn,aa,bne,b45,AGc k8 l,aQ];unfold APB;cases K6 c<;>cases Fj c<;>cases decide (c=45)<;>simp
def AGg (k2:Unit->Option Bool): ∀l:B8,G9 N k2 l=if l.all APB=true then k2 ()else some false|[]=>by grind[G9]|c::l=>by rw[G9,AB,UL,aa,UX,aa,bne,b45,AGg k2 l,aQ];unfold APB;cases K6 c<;>cases Fj c<;>cases decide (c=45)<;>simp
def Rq (l:B8):Bool:=!l.isEmpty&&(decide (l.length<=63)&&(decide (l.head?≠some 45)&&(decide (l.getLast?≠some 45)&&l.all APB)))
def AF2{c:UInt8}{l:B8} (hb:(c::l).length<=2^60): ∃d,(c::l).getLast?=some d/\idx (c::l) (wr .i64 (((c::l).length:Int)-1))=some d:=by have hne:(c::l)≠ []:=fN;refine⟨(c::l).getLast hne,cd hne,?_⟩;rw[show wr .i64 (((c::l).length:Int)-1)=(((c::l).length-1:Nat):Int) by simp only[ae]at hb⊢;rw[Ak fM];omega,D7,<-dF,cd hne]
def Adp (l:B8) (hb:l.length<=2^60):R8 N l=some (Rq l):=by
 unfold R8 Rq;dsimp only[AB];cases l with
 |nil=>rfl
 | cons c l=>
  obtain⟨d,h1,h2⟩:=AF2 hb;rw[aj fN,h2,h1,show idx (c::l) 0=some c from rfl,aa,aa,b45,b45,Ap fM,AGc];by_cases hl:(c::l).length<=63
  ·rw[aj (by simp only[au];omega),aC hl];by_cases hc:c=45;·simp_all
   ·rw[aF hc,aj fO];by_cases hd:d=45;·simp_all
    ·rw[aF hd,aj fO];obtain⟨b,hb2⟩: ∃b,(c::l).all APB=b:=⟨_,rfl⟩;rw[hb2];cases b<;>simp[hc,hd]
  ·rw[an (by simp only[au];omega),an rfl,aF hl];simp
def AhU (l:B8) (hb:l.length<=2^60):Qs N l=some (Rq l):=by
 unfold Qs Rq;dsimp only[AB];rw[Ap fM,AGg];cases l with
 |nil=>rfl
 | cons c l=>
  obtain⟨d,h1,h2⟩:=AF2 hb;obtain⟨b,hb2⟩: ∃b,(c::l).all APB=b:=⟨_,rfl⟩;rw[aj (c:=((c::l==[])=true)) fN,h2,h1,show idx (c::l) 0=some c from rfl,aa,aa,bne,bne,b45,b45,hb2];cases b;·simp
  ·rw[an rfl];by_cases hl:(c::l).length<=63;·rw[an (by simp only[au];omega),aC hl];by_cases hc:c=45<;>simp_all
   ·rw[aj (by simp only[au];omega),aF hl];simp
end
def AV (c:UInt8):B8->List B8|[]=>[[]]|x::t=>if x=c then []::AV c t else(match AV c t with|p::ps=>(x::p)::ps|[]=>[[x]])
theorem ES (c:UInt8): ∀l:B8,AV c l≠ []|[]=>by simp[AV]|x::t=>by grind[AV]
def AbN (cur:B8):List B8->List B8|p::ps=>(cur++p)::ps|[]=>[cur]
def Aev{c x:UInt8}{t cur:B8} (h: ¬x=c):AbN cur (AV c (x::t))=AbN (cur++[x]) (AV c t):=by rw[AV,aj h];grind[AV,absurd,AbN]
def H5 (c:UInt8): ∀l:B8,(AV c l).length<=l.length+1|[]=>by simp[AV]|x::t=>by have:=H5 c t;grind[AV]
def IY (c:UInt8): ∀(l p:B8),p∈AV c l->p.length<=l.length
 |[],p,h=>by grind[AV]
 | x::t,p,h=>by
  rw[AV]at h;split at h
  ·rcases aO.1 h with rfl|h;·simp
   ·have:=IY c t p h;grind
  ·split at h
   ·rename_i q qs hq;rcases aO.1 h with rfl|h;·have:=IY c t q (by grind);grind
    ·have:=IY c t p (by grind);grind
   grind
section
variable{N:Nat}
theorem AoK (x c:UInt8):(AJ x==AJ c)=decide (x=c):=by
 by_cases e:x=c;·grind
 ·have: ¬x.toNat=c.toNat:=λh=>e (dN.1 h);rw[aF e];simp only[AJ,bB,eA];omega
def VW (l:B8) (c:UInt8) (hb:l.length<=1000000): ∀(t pre cur:B8) (out:List B8),l=pre++(cur++t)->out.length<=pre.length+cur.length->Fz N l (AJ c) (λj1=>(sub l j1.2 (l.length:Int)).bind λx11=>grd (Af (j1.1.length+1) 16) (some (j1.1++[x11]))) t ((pre.length+cur.length:Nat):Int) out (pre.length:Int)=some (out++AbN cur (AV c t))
 |[],pre,cur,out,h,ho=>by have hl:=br List.length h;simp only[ag,aq]at hl;rw[Fz];dsimp only;rw[Av l pre.length l.length fM fM,aa,AP (by grind[Af]),h,c7];simp[AV,AbN]
 | x::t,pre,cur,out,h,ho=>by
  have hl:=br List.length h;simp only[ag,ae]at hl;rw[Fz,AB,AoK];by_cases e:x=c
  ·rw[aC e,an rfl,Av l pre.length (pre.length+cur.length) fM fM,aa,AP (by grind[Af])];dsimp only;have:=VW l c hb t (pre++cur++[x]) [] (out++[cur]) (by grind) (by grind);have e1:(l.drop pre.length).take (pre.length+cur.length-pre.length)=cur:=by grind
   rw[e1,AV,an e];rw[show(((pre++cur++[x]).length+([]:B8).length:Nat):Int)=((pre.length+cur.length:Nat):Int)+1 by grind,show(((pre++cur++[x]).length:Nat):Int)=((pre.length+cur.length:Nat):Int)+1 by grind]at this;rw[this];cases hs:AV c t with|nil=>grind[absurd,ES]|cons p ps=>simp[AbN]
  ·rw[aF e,aj fO,Aev e];dsimp only;have:=VW l c hb t pre (cur++[x]) out (by grind) (by grind);grind
def QG (l:B8) (c:UInt8) (hb:l.length<=1000000):En N l (AJ c)=some (AV c l):=by unfold En;rw[AB,Ap fM];have:=VW (N:=N) l c hb l [] [] [] rfl fN;refine this.trans ?_;cases hs:AV c l with|nil=>grind[absurd,ES]|cons p ps=>simp[AbN]
end
theorem NF (c:UInt8): ∀l:B8,AV c l=if(Ac c l).2.2=true then(Ac c l).1::AV c (Ac c l).2.1 else [(Ac c l).1]
 |[]=>by simp[AV,Ac]
 | x::t=>by
  have ih:=NF c t;rw[AV];unfold Ac at ih⊢;by_cases e:x=c;·simp_all
  ·have e1:(c==x)=false:=by grind
   have e3:(x !=c)=true:=by grind
   rw[aj e,bA,e1,bk,bg,e3];cases hc:t.contains c<;>simp_all
section
variable{N:Nat}
def A2d (l:B8):Bool:=!l.isEmpty&&l.all Fj
def VV (l:B8):Bool:=(AV 46 l).all Rq&&!A2d ((AV 46 l).getLast (ES 46 l))
def AeK (l:B8):VV l=(Rq (Ac 46 l).1&&if(Ac 46 l).2.2=true then VV (Ac 46 l).2.1 else !A2d (Ac 46 l).1):=by
 have h:=NF 46 l;unfold VV;cases hc:(Ac 46 l).2.2;·simp_all
 ·rw[hc]at h;simp only[az]at h⊢;grind
def AVV{c:UInt8}{l:B8} (h:(Ac c l).2.2=true):(Ac c l).2.1.length<l.length:=by
 unfold Ac at h⊢;cases hc:l.contains c;·grind
 ·have h1:=PE hc;have h2:(l.takeWhile (· !=c)).length+(l.dropWhile (· !=c)).length=l.length:=by grind[List.length_append,List.takeWhile_append_dropWhile]
  simp only[az,aG];omega
def AtP (c:UInt8) (l:B8):(Ac c l).1.length<=l.length:=by
 unfold Ac;split;·grind[UK]
 simp
def ACi: ∀(k:Nat) (l:B8),l.length<k->l.length<=2^60->K4 N k l=some (VV l)
 |0,l,h,_=>by omega
 | k+1,l,h,hb=>by
  have h1:=AtP 46 l;rw[K4,P6 46 l hb,aa,Adp _ fM,aa,AeK l];cases Rq (Ac 46 l).1;·rfl
  ·rw[an rfl,bM];cases hc:(Ac 46 l).2.2;·rw[aj fO,Rx _ fM,aa];rfl
   ·have:=AVV hc;rw[an rfl,an rfl];exact ACi k _ fM fM
def Aqi (l:B8) (hN:l.length<N) (hb:l.length<=2^60):Wp N l=some (VV l):=ACi N l hN hb
def ADM (k4:Unit->Option Bool): ∀ps:List B8,(∀p,p∈ps->p.length<=2^60)->Ib N k4 ps=if ps.all Rq=true then k4 ()else some false|[],_=>by grind[Ib]|p::ps,h=>by rw[Ib,AhU p (h p fN),aa,ADM k4 ps λq hq=>h q (by grind),aQ];cases Rq p<;>simp
def Al3 (l:B8) (hb:l.length<=1000000):SL N l=some (VV l):=by
 have hl:=H5 46 l;have hp:=IY 46 l;have hne:=ES 46 l;unfold SL;rw[show(46:Int)=AJ 46 from rfl,QG l 46 hb,aa];dsimp only[AB];rw[Ap fM,ADM _ _ λp h=>by grind];have hlast:idx (AV 46 l) (wr .i64 (((AV 46 l).length:Int)-1))=some ((AV 46 l).getLast hne):=by have:0<(AV 46 l).length:=bS.2 hne;rw[show wr .i64 (((AV 46 l).length:Int)-1)=(((AV 46 l).length-1:Nat):Int) by rw[Ak fM];omega,D7,<-dF,cd hne]
 have:=hp _ (fc hne);rw[hlast,aa,YB _ fM,aa];unfold VV;cases (AV 46 l).all Rq;·rfl
 ·rfl
def ADI (l:B8):Bool:=decide ((AV 46 l).length=4)&&(AV 46 l).all λp=>(Dw 255 p).2==0
def AHB (k4:Unit->Option Bool): ∀ps:List B8,(∀p,p∈ps->p.length<=2^60)->GH N k4 ps=if(ps.all λp=>(Dw 255 p).2==0)=true then k4 ()else some false|[],_=>by grind[GH]|p::ps,h=>by rw[GH,show(255:Int)=((255:Nat):Int)from rfl,ADW fO fO p (h p fN),aa,AHB k4 ps λq hq=>h q (by grind),aQ];cases hx:((Dw 255 p).2==0)<;>simp[bne,hx]
def Ab9 (l:B8) (hb:l.length<=1000000):ND N l=some (ADI l):=by
 have hl:=H5 46 l;have hp:=IY 46 l;unfold ND;rw[show(46:Int)=AJ 46 from rfl,QG l 46 hb,aa];dsimp only[AB];rw[Ap fM,AHB _ _ λp h=>by grind];unfold ADI;have e:(((AV 46 l).length:Int)==4)=decide ((AV 46 l).length=4):=by grind
 rw[e];cases ((AV 46 l).all λp=>(Dw 255 p).2==0)<;>simp
end
section
variable{N:Nat}
def AKd (c:UInt8) (l:B8):strings_Index N l [c]=some (Go.Lib.indexByte l c):=by simp_all[strings_Index,BH]
def AAK{c:UInt8}{l:B8}:l.count c=0<->l.contains c=false:=by grind
theorem AAl{c:UInt8}: ∀ {l:B8},l.contains c=true->l.count c=((l.dropWhile (· !=c)).drop 1).count c+1
 |[],h=>by grind
 | x::t,h=>by
  by_cases hx:x=c;·simp_all
  ·have hx':(x !=c)=true:=by grind
   rw[bA,show(c==x)=false by grind,bk]at h;rw[bX,an hx',List.count_cons,show(x==c)=false by grind,AAl h];simp
theorem Gf{c:UInt8}{l:B8} (h:l.contains c=true):Ac c l=(l.takeWhile (· !=c),(l.dropWhile (· !=c)).drop 1,true):=by simp_all[Ac]
theorem Ui{c:UInt8}{l:B8} (h:l.contains c=false):Ac c l=(l,[],false):=by simp_all[Ac]
def APR{c:UInt8}{l:B8} (h:l.contains c=true) (hb:l.length<=1000000):sub l 0 (wr .i64 (Go.Lib.indexByte l c+0))=some (Ac c l).1/\sub l (wr .i64 (Go.Lib.indexByte l c+(([c]:B8).length:Int))) (l.length:Int)=some (Ac c l).2.1:=by
 have hlt:=PE h;rw[PG];unfold Ac;simp only[h,az];generalize hn:(l.takeWhile (· !=c)).length=n at *;have w:wr .i64 ((n:Int)+(([c]:B8).length:Int))=((n+1:Nat):Int):=by grind[Ak]
 have w0:wr .i64 ((n:Int)+0)=(n:Int):=by grind[Ak]
 rw[w,w0,show(0:Int)=((0:Nat):Int)from rfl,Av l 0 n fM fM,Av l (n+1) l.length fM fM];rw[aN,bw,<-hn,Ht,bc fN,<-aT,MN];simp
def AVO{c:UInt8}{a0:B8}{j3:Int}{M:Nat} (k10:B8×Int×List B8->Option (List B8)) (hE:(if(wr .i64 ((a0.length:Int)+1))<j3 then(wr .i64 ((a0.length:Int)+1))else j3)=((M:Nat):Int)) (hM:M<=2000000):∀(k:Nat) (s:B8) (done:List B8),s.count c=k->s.length<=1000000->done.length+k+1<=M->∃pre last,pre++[last]=done++AV c s/\pre.length=done.length+k/\Cg N a0 [c] 0 j3 k10 k (done.length:Int) s (done++List.replicate (k+1) [])=k10 (last,((done.length+k:Nat):Int),pre++[[]])
 |0,s,done,hc,hs,hd=>by
  have h0:=AAK.1 hc;refine⟨done,s,?_,rfl,?_⟩;·grind[NF,Ui]
  grind[Cg]
 | k+1,s,done,hc,hs,hd=>by
  have h1:s.contains c=true:=by grind
  obtain⟨s1,s2⟩:=APR h1 hs;have hcb:=AAl h1;have hc1:(Ac c s).2.1=(s.dropWhile (· !=c)).drop 1:=by rw[Gf h1]
  rw[<-hc1]at hcb;have hl:=FZ c s;obtain⟨pre,last,p1,p2,p3⟩:=AVO (c:=c) k10 hE hM k (Ac c s).2.1 (done++[(Ac c s).1]) fM fM (by grind);refine⟨pre,last,?_,by grind,?_⟩;·rw[p1,NF c s,an (by rw[Gf h1])];simp
  ·rw[Cg,AKd,aa,aj (by rw[PG,an h1];simp),s1,aa,hE,AP (by constructor<;>omega),AP fN,s2,aa];have e1:(done++List.replicate (k+1+1) ([]:B8)).set (done.length:Int).toNat (Ac c s).1=(done++[(Ac c s).1])++List.replicate (k+1) []:=by rw[bG,dn _ _ (av _),dh,dH,ci];simp
   grind
def Wq (l:B8) (c:UInt8) (hb:l.length<=1000000):strings_Split N l [c]=some (AV c l):=by
 have hcl:l.count c<=l.length:=List.count_le_length;have hcnt:strings_Count N l [c]=some ((l.count c:Nat):Int):=by unfold strings_Count;rw[aj fN,an (by rfl),show idx [c] 0=some c from rfl,aa,Rk];rfl
 unfold strings_Split strings_genSplit;dsimp only[AB];rw[aj fO,aj fN,an fO,hcnt,aa];have w1:wr .i64 (((l.count c:Nat):Int)+1)=((l.count c+1:Nat):Int):=by grind[Ak]
 have w2:wr .i64 ((l.length:Int)+1)=((l.length+1:Nat):Int):=by grind[Ak]
 rw[w1];have hE:(if(wr .i64 ((l.length:Int)+1))<((l.count c+1:Nat):Int)then(wr .i64 ((l.length:Int)+1))else((l.count c+1:Nat):Int))=((l.count c+1:Nat):Int):=fM;obtain⟨pre,last,p1,p2,p3⟩:=AVO (N:=N) (c:=c) (a0:=l) (j3:=((l.count c+1:Nat):Int)) (M:=l.count c+1) (λj9:B8×Int×(List B8)=>grd (0<=j9.2.1/\j9.2.1<((if(wr .i64 ((l.length:Int)+1))<((l.count c+1:Nat):Int)then(wr .i64 ((l.length:Int)+1))else((l.count c+1:Nat):Int)).toNat:Int)) (grd (j9.2.1.toNat+1<=j9.2.2.length) (grd (0<=(wr .i64 (j9.2.1+1))/\(wr .i64 (j9.2.1+1))<=((if(wr .i64 ((l.length:Int)+1))<((l.count c+1:Nat):Int)then(wr .i64 ((l.length:Int)+1))else((l.count c+1:Nat):Int)).toNat:Int)) (grd ((wr .i64 (j9.2.1+1)).toNat<=j9.2.2.length) (some (List.take ((wr .i64 (j9.2.1+1)).toNat) (j9.2.2.set j9.2.1.toNat j9.1))))))) hE fM (l.count c) l [] rfl hb fN;have w3:(wr .i64 (((l.count c+1:Nat):Int)-1)-0).toNat=l.count c:=by grind[Ak]
 rw[hE]at p3⊢;rw[AP (by grind[ZV]),AP fM,w3];simp only[bG]at p3⊢;simp only[bl,aq,bJ]at p1 p2 p3;rw[show((0:Nat):Int)=0 from rfl]at p3;rw[p3];have w4:wr .i64 (((l.count c:Nat):Int)+1)=((pre.length+1:Nat):Int):=fM;rw[w4];simp only[bG];rw[AP fM,AP (by grind),AP fM,AP fN,aa];rw[<-p2,dn _ _ (av _),dh,ci,bc fN,p1]
end
section
variable{N:Nat}
section
variable{l t:B8}{i p:Nat}
end
end
section
variable{N:Nat}
section
variable{l:B8}
end
def MJ: ∀l:B8,List.map Fg (List.map AJ l)=l|[]=>rfl|c::l=>by rw[aH,aH,Rk,MJ l]
end
end Go.VM
