import GoSem.Claim
import Derived.Test.YtenhbiooanampaaGreatDoorDefs
import Derived.KernelRfl
set_option linter.defProp false
set_option linter.unusedVariables false
set_option linter.unusedSimpArgs false
namespace Go.VM
theorem Ai{n:Int} (h: -9223372036854775808<=n/\n<=9223372036854775807):wr .i64 n=n:=by grind[wr,IntKind.wrap,IntKind.bits,IntKind.signed]
def Ea{α:Type} (l:List α) (n:Nat):idx l (n:Int)=l[n]?:=by simp[idx]
theorem TI{α:Type} (pre suf:List α) (x:α):idx (pre++x::suf) (pre.length:Int)=some x:=by simp[idx]
def Amu{α:Type} (pre:List α) (x:α):(pre.length:Int)+1=((pre++[x]).length:Int):=fI
def AZj{α:Type} (l:List α):sub l 0 (l.length:Int)=some l:=by simp[sub]
def A8{α:Type} (l:List α) (a b:Nat) (h1:a<=b) (h2:b<=l.length):sub l (a:Int) (b:Int)=some ((l.drop a).take (b-a)):=by grind[sub]
theorem AO{α:Type}{c:Prop} [Decidable c]{x:Option α} (h:c):grd c x=x:=by grind[grd]
def AVq{n b:Nat} (h:n<=1000000) (hb:b<=100000):Ae n b:=by unfold Ae;have:n * b<=1000000 * 100000:=fr h hb;omega
def Ax7{α:Type}{n b:Nat}{x:Option α} (h:n<=1000000) (hb:b<=100000):grd (Ae n b) x=x:=AO (AVq h hb)
theorem A9{α:Type}{n:Nat}{x:Option α} (h:n<=4611686018427387904):grd (AL n) x=x:=AO h
theorem AB{α β:Type} (k:α->Option β) (body:(α->Option β)->Option β){d:JD α}:AA k body d=body k:=rfl
def wf_u8{n:Int} (h:(Lit.int .u8 n).wf=true):0<=n/\n<=255:=by simp only[Lit.wf,aw,au]at h;have e1:IntKind.u8.min=0:=fJ;have e2:IntKind.u8.max=255:=fJ;omega
def Ok{α:Type} (x:Option α) (P:α->Prop):Prop:= ∃a,x=some a/\P a
section
variable{α β:Type}{P:α->Prop}{Q:β->Prop}
def Ok.ret{a:α} (h:P a):Ok (some a) P:=⟨a,rfl,h⟩
def Ok.bind{x:Option β}{f:β->Option α} (h:Ok x Q) (k: ∀b,Q b->Ok (f b) P):Ok (Option.bind x f) P:=by obtain⟨b,rfl,hb⟩:=h;grind
def Ok.ite{c:Bool}{x y:Option α} (h1:c=true->Ok x P) (h2:c=false->Ok y P):Ok (if c=true then x else y) P:=by
 cases c;·simpa using h2 rfl
 ·simpa using h1 rfl
theorem Ok.grd{c:Prop} [Decidable c]{x:Option α} (hc:c) (h:Ok x P):Ok (grd c x) P:=by grind[AO]
def Ok.meet (J:β->Prop){k:β->Option α}{body:(β->Option α)->Option α}{d:JD β} (hk: ∀b,J b->Ok (k b) P) (hb: ∀k':β->Option α,(∀b,J b->Ok (k' b) P)->Ok (body k') P):Ok (AA k body d) P:=hb k hk
def Ok.letL{x:β}{f:β->Option α} (h:Ok (f x) P):Ok (letL x f) P:=h
def Ok.mono{x:Option α}{P':α->Prop} (h:Ok x P) (k: ∀a,P a->P' a):Ok x P':=by obtain⟨a,e,ha⟩:=h;exact⟨a,e,k a ha⟩
theorem Ok.idx{l:List α}{i:Int} (h0:0<=i) (h1:i<l.length):Ok (idx l i) (λx=>l[i.toNat]?=some x):=by have:i.toNat<l.length:=fH;exact⟨l[i.toNat],by grind[VM.idx],aS this⟩
end
section
variable{N:Nat}
def GK (d:MadeDice):Prop:=(∀a,a∈d.l->0<=a/\a<=255)/\d.l.length<=1000
def V8{d:MadeDice} (hd:GK d){n:Nat} (h1:1<=n):Ok (Aj N d (n:Int)) λr=>(0<=r.1/\r.1<n)/\GK r.2:=by
 unfold Aj;have hz:Ok (some ((0:Int),d)) λr=>(0<=r.1/\r.1<n)/\GK r.2:=.ret ⟨⟨bD _,by dsimp only;omega⟩,hd⟩;dsimp only[AB];cases hq:d.l with
 |nil=>exact hz
 |cons a t=>
  have hl:=hd.2;rw[hq]at hl;simp only[ae]at hl;obtain⟨a1,a2⟩:=hd.1 a (by rw[hq];simp);rw[aj fK];refine Ok.ite (λ_=>hz) λ_=>?_;have e1:sub (a::t) 1 ((a::t).length:Int)=some t:=by rw[show(1:Int)=((1:Nat):Int)from rfl,A8 _ 1 _ fI (av _)];simp
  rw[show idx (a::t) 0=some a from rfl,aa,e1,aa,Ai fH];refine .grd fH (.ret ⟨⟨?_,?_⟩,λb hb=>hd.1 b (by rw[hq];simp[hb]),by dsimp only;omega⟩);·exact Int.tmod_nonneg _ a1
  ·exact Int.tmod_lt_of_pos _ fH
def oneG{d:MadeDice} (hd:GK d){l:List B8} (h1:1<=l.length):Ok (BP N d l) λr=>r.1∈l/\GK r.2:=by unfold BP;refine .bind (V8 hd h1) λy ⟨⟨y1,y2⟩,y3⟩=>?_;exact .bind (Ok.idx y1 y2) λx hx=>.ret ⟨d7 hx,y3⟩
def AAS{α:Type}{n:Nat}{x:Option α}{P:α->Prop} (h:n<=1000000) (hx:Ok x P):Ok (grd (AL n) x) P:=by rw[A9 fH];exact hx
def AHo:List B8:=[[97,46,101,120,97,109,112,108,101],[98,46,101,120,97,109,112,108,101],[99,46,101,120,97,109,112,108,101,58,56,52,52,51],[100,46,101,120,97,109,112,108,101]]
def ANv:List B8:=[[97,46,101,120,97,109,112,108,101],[98,46,101,120,97,109,112,108,101],[99,46,101,120,97,109,112,108,101,37,51,65,56,52,52,51],[100,46,101,120,97,109,112,108,101]]
def Sc (l:List B8) (m:List B8):List B8:=l.flatMap λa=>m.map λb=>a++b
def Ke{l m:List B8}{a b:B8} (h1:a∈l) (h2:b∈m):a++b∈Sc l m:=dX.2 ⟨a,h1,bk.2 ⟨b,h2,rfl⟩⟩
def AWl:List B8:=Sc (Sc (Sc [[97,99,99,116,58],[65,67,67,84,58]] [[98,111,98],[97,109,121],[120,37,50,102,121],[99,43,100]]) [[64]]) [[97,46,101,120,97,109,112,108,101],[66,46,101,120,97,109,112,108,101],[99,46,101,120,97,109,112,108,101]]++(Sc (Sc (Sc [[109,97,105,108,116,111,58]] [[98,111,98],[37,54,49,109,121],[99,43,100]]) [[64]]) [[97,46,101,120,97,109,112,108,101],[98,46,69,120,97,109,112,108,101]]++(Sc (Sc [[104,116,116,112,115,58,47,47]] AHo) [[],[47],[47,117,47,98,111,98],[47,46,47,120,63,121,61,49],[47,126,97,35,109,101]]++Sc (Sc [[100,105,100,58,119,101,98,58]] ANv) [[],[58,117],[58,117,58,98,111,98],[58,97,37,55,101,98]]))
def AwD{d:MadeDice} (hd:GK d):Ok (SF N d) λr=>r.1∈AWl/\GK r.2:=by
 unfold SF VK AWl;simp only[aZ];refine .bind (Q:=λr=>r.1∈AHo/\GK r.2) ?_ λy ⟨y1,y2⟩=>?_;·exact .letL (.bind (oneG hd fJ) λr hr=>.ret hr)
 refine .bind (V8 y2 (n:=6) fJ) λz ⟨_,z1⟩=>?_;have hlen: ∀s,s∈AHo->s.length<=30:=fJ;have hy:=hlen _ y1;refine .meet (λ_=>True) (λj _=>?_) λk' hk=>.ite (λ_=>hk _ trivial) λ_=>hk _ trivial;refine .ite (λ_=>?_) λ_=>.ite (λ_=>?_) λ_=>.ite (λ_=>?_) λ_=>?_;·refine .letL (.bind (oneG z1 fJ) λa ⟨a1,a2⟩=>?_);refine .letL (.bind (oneG a2 fJ) λb ⟨b1,b2⟩=>?_);have ha:a.1.length<=30:=(show∀s,s∈([[97,99,99,116,58],[65,67,67,84,58]]:List B8)->s.length<=30 by decide) _ a1;have hb:b.1.length<=30:=(show∀s,s∈([[98,111,98],[97,109,121],[120,37,50,102,121],[99,43,100]]:List B8)->s.length<=30 by decide) _ b1;refine AAS fH (AAS fK ?_);refine .letL (.bind (oneG b2 fJ) λc ⟨c1,c2⟩=>?_);have hc:c.1.length<=30:=(show∀s,s∈([[97,46,101,120,97,109,112,108,101],[66,46,101,120,97,109,112,108,101],[99,46,101,120,97,109,112,108,101]]:List B8)->s.length<=30 by decide) _ c1;exact AAS fK (.ret ⟨.inl (Ke (Ke (Ke a1 b1) fJ) c1),c2⟩)
 ·refine .letL (.bind (oneG z1 fJ) λa ⟨a1,a2⟩=>?_);have ha:a.1.length<=30:=(show∀s,s∈([[98,111,98],[37,54,49,109,121],[99,43,100]]:List B8)->s.length<=30 by decide) _ a1;refine AAS fK (AAS fK ?_);refine .letL (.bind (oneG a2 fJ) λc ⟨c1,c2⟩=>?_);have hc:c.1.length<=30:=(show∀s,s∈([[97,46,101,120,97,109,112,108,101],[98,46,69,120,97,109,112,108,101]]:List B8)->s.length<=30 by decide) _ c1;exact AAS fK (.ret ⟨.inr (.inl (Ke (Ke (Ke fJ a1) fJ) c1)),c2⟩)
 ·refine AAS fK ?_;refine .letL (.bind (oneG z1 fJ) λa ⟨a1,a2⟩=>?_);have ha:a.1.length<=30:=(show∀s,s∈([[],[47],[47,117,47,98,111,98],[47,46,47,120,63,121,61,49],[47,126,97,35,109,101]]:List B8)->s.length<=30 by decide) _ a1;exact AAS fK (.ret ⟨.inr (.inr (.inl (Ke (Ke fJ y1) a1))),a2⟩)
 ·refine .meet (λj=>j∈ANv/\j.length<=30) (λj ⟨hj,hj2⟩=>?_) λk' hk=>.ite (λ_=>hk _ fJ) λhne=>hk _ ?_;·refine AAS fK ?_;refine .letL (.bind (oneG z1 fJ) λa ⟨a1,a2⟩=>?_);have ha:a.1.length<=30:=(show∀s,s∈([[],[58,117],[58,117,58,98,111,98],[58,97,37,55,101,98]]:List B8)->s.length<=30 by decide) _ a1;exact AAS fK (.ret ⟨.inr (.inr (.inr (Ke (Ke fJ hj) a1))),a2⟩)
  ·refine⟨?_,hy⟩;revert hne;generalize y.1=h at y1;have: ∀s,s∈AHo->(s==([99,46,101,120,97,109,112,108,101,58,56,52,52,51]:B8))=false->s∈ANv:=fJ;exact this h y1
def Ax4 (a0:List Int) (h: ∀a,a∈a0->0<=a/\a<=255):Ok (Qh N a0) GK:=by
 unfold Qh;have e:(if 200<(a0.length:Int)then 200 else(a0.length:Int))=((min 200 a0.length:Nat):Int):=by split<;>omega
 rw[e,show(0:Int)=((0:Nat):Int)from rfl,A8 _ 0 _ (aK _) fH,aa];refine .ret ⟨λa ha=>h a ?_,?_⟩;·exact cx (dp ha)
 ·simp only[bg,aP];omega
end
theorem NE (c:UInt8):AJ c=(c.toNat:Int):=rfl
theorem Qf (c:UInt8):FQ (AJ c)=c:=by simp[FQ,AJ]
theorem toNat_ofNat{n:Nat} (h:n<256):(UInt8.ofNat n).toNat=n:=by simp_all
theorem AUt{n:Int} (h:0<=n/\n<256):wr .u8 n=n:=by grind[wr,IntKind.wrap,IntKind.bits,IntKind.signed]
theorem FV{n:Int} (h:0<=n/\n<18446744073709551616):wr .u64 n=n:=by grind[wr,IntKind.wrap,IntKind.bits,IntKind.signed]
def AWy{n:Nat}:wr .u8 (n:Int)=((n % 256:Nat):Int):=by grind[wr,IntKind.wrap,IntKind.bits,IntKind.signed]
section
variable{N:Nat}
end
section
variable{N:Nat}
def OE{α:Type}{l t:List α}{x:α}{i j:Nat} (h:l.drop i=t) (hx:t[j]?=some x):idx l ((i+j:Nat):Int)=some x:=by rw[Ea,<-bV,h,hx]
def NB{α:Type}{l t:List α}{i:Nat} (h:l.drop i=t) (hi:i<=l.length):l.length=i+t.length:=by have:=br List.length h;grind
section
variable{l t:B8}{i:Nat}{k13:Int->Option (Int×Int×Int)}
end
end
section
variable{N:Nat}
def Bt{α:Type} [DecidableEq α]{f g:Nat->α} (h:(List.range 256).all (λn=>decide (f n=g n))=true) (c:UInt8):f c.toNat=g c.toNat:=by have:=aL.1 h c.toNat (eB.2 c.toNat_lt);grind
def UI (n:Nat):Bool:=(decide (48<=n)&&decide (n<=57))||(decide (65<=n)&&decide (n<=70))||(decide (97<=n)&&decide (n<=102))
def JX (c:UInt8):Bool:=UI c.toNat
def Gc (n:Nat):Nat:=if n<=57 then n-48 else if n<=70 then n-55 else n-87
def VB (c:UInt8) (h:JX c=true):Gc c.toNat<16:=by simp only[JX,UI,ce,aw,au]at h;unfold Gc;split<;>(grind)<;>omega
def AA1 (c:UInt8):Jv N (AJ c)=some (JX c):=Bt (f:=λn=>Jv N (n:Int)) (g:=λn=>some (UI n)) (by kernel_rfl) c
def AAu (c:UInt8):JC N (AJ c)=some (JX c):=Bt (f:=λn=>JC N (n:Int)) (g:=λn=>some (UI n)) (by kernel_rfl) c
def Aae (c:UInt8) (h:JX c=true):MF N (AJ c)=some ((Gc c.toNat:Nat):Int):=by have:=Bt (f:=λn=>if UI n=true then MF N (n:Int)else none) (g:=λn=>if UI n=true then some ((Gc n:Nat):Int)else none) (by kernel_rfl) c;simp only[show UI c.toNat=true from h,aB]at this;exact this
def AqZ (c:UInt8) (h:JX c=true):(if decide (AJ c>57)=true then wr .u64 (wr .u64 (wr .u64 (Pm .u8 (AJ c) 32)-97)+10)else wr .u64 (wr .u8 (AJ c-48)))=((Gc c.toNat:Nat):Int):=by have:=Bt (f:=λn=>if UI n=true then(if decide ((n:Int)>57)=true then wr .u64 (wr .u64 (wr .u64 (Pm .u8 (n:Int) 32)-97)+10)else wr .u64 (wr .u8 ((n:Int)-48)))else 0) (g:=λn=>if UI n=true then((Gc n:Nat):Int)else 0) (by kernel_rfl) c;simp only[show UI c.toNat=true from h,aB]at this;exact this
def Wj (n:Nat):B8->Nat|[]=>n|c::l=>Wj (n * 16+Gc c.toNat) l
def Atx (k2:Unit->Option (Int×Int)): ∀l:B8,BU N k2 l=if l.all JX=true then k2 ()else some (0,1)|[]=>by rw[BU];rfl|c::l=>by rw[BU,AA1,aa,Atx k2 l];cases h:JX c<;>simp[h]
def AtV (k2:Unit->Option (Int×Int)): ∀l:B8,D5 N 16 k2 l=if l.all JX=true then k2 ()else some (0,1)|[]=>by grind[D5]|c::l=>by rw[D5,AB,show((16:Int)==10)=false from rfl,show((16:Int)==16)=true from rfl];simp only[aq,az,aB];rw[AAu,aa,AtV k2 l];cases h:JX c<;>simp[h]
end
section
variable{N:Nat}
section
variable{l:B8}
end
end
section
variable{N:Nat}
theorem HZ{α:Type} (p:α->Bool) (t:List α):t.take (t.takeWhile p).length=t.takeWhile p:=(eX.1 (List.takeWhile_prefix p)).symm
theorem Sj{α:Type} (p:α->Bool) (t:List α):(t.takeWhile p).length<=t.length:=(List.takeWhile_sublist p).length_le
def GH (c:UInt8):Bool:=decide (48<=c.toNat)&&decide (c.toNat<=57)
def AB4 (n:Nat):Bool:=(decide (65<=n)&&decide (n<=90))||(decide (97<=n)&&decide (n<=122))
def Me (c:UInt8):Bool:=AB4 c.toNat
def YQ (c:UInt8):Cq N (AJ c)=some (GH c):=Bt (f:=λn=>Cq N (n:Int)) (g:=λn=>some (decide (48<=n)&&decide (n<=57))) (by kernel_rfl) c
def VO (c:UInt8):CQ N (AJ c)=some (GH c):=Bt (f:=λn=>CQ N (n:Int)) (g:=λn=>some (decide (48<=n)&&decide (n<=57))) (by kernel_rfl) c
def VJ (c:UInt8):Gf N (AJ c)=some (Me c):=Bt (f:=λn=>Gf N (n:Int)) (g:=λn=>some (AB4 n)) (by kernel_rfl) c
def U6 (c:UInt8):Ef N (AJ c)=some (Me c):=Bt (f:=λn=>Ef N (n:Int)) (g:=λn=>some (AB4 n)) (by kernel_rfl) c
def AUC (c:UInt8) (k2:Unit->Option Bool) (h:k2 ()=some false): ∀l:B8,Ju N (AJ c) k2 l=some (l.contains c)
 |[]=>by grind[Ju]
 | x::l=>by
  rw[Ju,AUC c k2 h l,bC];by_cases e:x=c;·grind
  ·have e1: ¬c=x:=λh=>e h.symm;have:(AJ x==AJ c)=false:=by have: ¬x.toNat=c.toNat:=λh=>e (dH.1 h);simp only[AJ,bv,ek];omega
   grind
def ACt (c:UInt8) (l:B8) (h:l.length<=1000):FW N (AJ c) l=some (l.contains c):=by unfold FW;rw[AB,A9 fH];exact AUC c _ rfl l
def MC (l:B8) (c:UInt8):strings_IndexByte N l (AJ c)=some (Go.Lib.indexByte l c):=by grind[strings_IndexByte,EF,Qf]
section
variable{l:B8}
variable{t:B8}{i:Nat}
end
end
section
variable{N:Nat}
def Je{α β:Type}{K:α->Option β}{body:(α->Option β)->Option β}{a:α}{d:JD α} (h: ∀k:α->Option β,body k=k a):AA K body d=K a:=h K
def OY: ∀(l:B8) (c:UInt8),Go.Lib.indexByte l c=if l.contains c=true then(((l.takeWhile (· !=c)).length:Nat):Int)else-1
 |[],c=>rfl
 | x::l,c=>by
  have ih:=OY l c;rw[Go.Lib.indexByte,bC];by_cases e:x=c;·simp_all
  ·have e1:(c==x)=false:=by grind
   simp_all
def LB{α:Type} (p:α->Bool) (l:List α):l.drop (l.takeWhile p).length=l.dropWhile p:=by
 have:=bl (p:=p) (l:=l);conv=>lhs;rw[<-this]
 rw[cu,bK fI,this];simp
def Af (c:UInt8) (l:B8):B8×B8×Bool:=if l.contains c=true then(l.takeWhile (· !=c),(l.dropWhile (· !=c)).drop 1,true)else(l,[],false)
theorem QA{c:UInt8}: ∀ {l:B8},l.contains c=true->(l.takeWhile (· !=c)).length<l.length
 |[],h=>by cases h
 | x::l,h=>by
  rw[bc];by_cases e:x=c;·grind
  ·have e3:(x !=c)=true:=by grind
   rw[bC]at h;have e1:(c==x)=false:=by grind
   rw[e1,be]at h;rw[e3];have:=QA h;simp_all
def RJ (c:UInt8) (l:B8) (hb:l.length<=2^60):strings_Cut N l [c]=some (Af c l):=by
 unfold strings_Cut Ej BF Af;have hI:(if((([c]:B8).length:Int)==1)=true then some (Go.Lib.indexByte l (([c]:B8).headD 0))else grd (l.length<4294967281) (some (Go.Lib.index l [c])))=some (Go.Lib.indexByte l c):=an (by rfl);rw[hI,aa,OY];by_cases h:l.contains c=true
 ·have hlt:=QA h;simp only[h,aB];generalize hn:(l.takeWhile (· !=c)).length=n at *;have w:wr .i64 ((n:Int)+(([c]:B8).length:Int))=((n+1:Nat):Int):=by grind[Ai]
  rw[an fI,show(0:Int)=((0:Nat):Int)from rfl,A8 l 0 n fH fH,aa,w,A8 l (n+1) l.length fH fH,aa,aa];rw[aO,bB,<-hn,HZ,ba fI,<-aT,LB]
 simp_all
theorem JY (c:UInt8) (l:B8):(Af c l).1.length<=l.length/\(Af c l).2.1.length<=l.length:=by grind[Af,Sj,List.dropWhile_sublist,List.length_drop]
def ABw (x c:UInt8):(AJ x==AJ c)=(x==c):=by
 by_cases h:x=c;·grind
 ·have: ¬x.toNat=c.toNat:=λe=>h (dH.1 e);have h2:(x==c)=false:=by grind
  rw[h2];simp only[AJ,bv,ek];omega
def APk{α:Type} (x:α) (l:List α):sub (x::l) 1 (((x::l).length:Nat):Int)=some l:=by have:=A8 (x::l) 1 (x::l).length fI (av _);simp_all
def Z4 (p:UInt8->Bool) (l:B8):B8:=(l.reverse.dropWhile p).reverse
def ABz (p:UInt8->Bool) (l:B8) (x:UInt8):Z4 p (l++[x])=if p x=true then Z4 p l else l++[x]:=by unfold Z4;rw[List.reverse_append,List.reverse_cons,List.reverse_nil,bm,dU,bX];split<;>simp
def An3 (p:UInt8->Bool) (l:B8):(Z4 p l).length<=l.length:=by grind[Z4,List.dropWhile_sublist]
def AUO{α:Type} (l:List α) (x:α) (hb:l.length<=2^60):sub (l++[x]) 0 (wr .i64 ((((l++[x]).length:Nat):Int)-1))=some l:=by rw[Ai (by grind),show(((l++[x]).length:Nat):Int)-1=(l.length:Int) by simp,show(0:Int)=((0:Nat):Int)from rfl,A8 _ 0 l.length fH fI];simp
def AQj{α:Type} (l:List α) (x:α) (hb:l.length<=2^60):idx (l++[x]) (wr .i64 ((((l++[x]).length:Nat):Int)-1))=some x:=by rw[Ai (by grind),show(((l++[x]).length:Nat):Int)-1=(l.length:Int) by simp,Ea];simp
def ARz (as:List Bool) (set:B8):Prop:=as.length=256/\ ∀c:UInt8,as[c.toNat]?=some (set.contains c)
def AT7 (k2:List Bool->Option (List Bool×Bool)) (done:B8): ∀(l:B8) (done:B8) (bn:List Bool),(∀c∈l,c.toNat<128)->ARz bn done->∃as,Cb N k2 l bn=k2 as/\ARz as (done++l)
 |[],done,bn,hl,hs=>⟨bn,by rw[Cb],by grind⟩
 | x::l,done,bn,hl,hs=>by
  have hx:=hl x fI;have c1: ¬AJ x>=128:=by grind[AJ]
  obtain⟨as,h1,h2⟩:=AT7 k2 done l (done++[x]) (bn.set x.toNat true) (λc hc=>hl c (by grind)) ⟨by simp[hs.1],λc=>by
   rw[dm];by_cases e:x.toNat=c.toNat;·have:x=c:=dH.1 e;subst this;rw[an rfl,an (by rw[hs.1];omega)];simp
   ·rw[aj e,hs.2 c];grind⟩;refine⟨as,?_,by grind⟩;rw[Cb,aj (by grind),AO (by grind[AJ]),AO (by rw[hs.1];omega)];exact h1
def AiU (set:B8) (hl: ∀c∈set,c.toNat<128) (hb:set.length<=1000): ∃as,strings_makeASCIISet N set=some (as,true)/\ARz as set:=by unfold strings_makeASCIISet;rw[AB,AO (by grind[AL])];obtain⟨as,h1,h2⟩:=AT7 (N:=N) (λj1=>grd (j1.length=256) (some (j1,true))) [] set [] (AMh 256) hl ⟨ABG,λc=>by have:=c.toNat_lt;rw[AMh,List.getElem?_replicate,an fH];rfl⟩;exact⟨as,by rw[h1,AO h2.1],h2⟩
def ASO{as:List Bool}{set:B8} (h:ARz as set) (c:UInt8):EN N as (AJ c)=some (set.contains c,as):=by have:=c.toNat_lt;unfold EN;rw[AO (by grind[AJ]),NE,Ea,h.2 c];rfl
def AiR (n:Nat):Nat:=if 65<=n/\n<=90 then n+32 else n
def FP (c:UInt8):UInt8:=UInt8.ofNat (AiR c.toNat)
def ARl (l:B8) (hb:l.length<=2^60) (k2:List Int->Option B8): ∀(t pre:B8),l=pre++t->Gp N l k2 t (pre.length:Int) (List.map AJ (pre.map FP)++List.map AJ t)=k2 (List.map AJ (l.map FP))
 |[],pre,h=>by grind[Gp]
 | c::t,pre,h=>by
  have hlen:pre.length<l.length:=by grind
  have hc:=c.toNat_lt;rw[Gp];refine(Je (a:=List.map AJ (pre.map FP)++(AJ (FP c)::List.map AJ t)) λk7=>?_).trans ?_
  ·rw[AO fH,aF];have hi:idx (List.map AJ (pre.map FP)++AJ c::List.map AJ t) (pre.length:Int)=some (AJ c):=by grind[TI,List.map,AJ,FP]
   rw[hi,aa];refine(Je (a:=decide (65<=c.toNat/\c.toNat<=90)) λk12=>?_).trans ?_
   ·by_cases h1:65<=c.toNat
    ·have:(65:Int)<=AJ c:=by grind[AJ]
     rw[an (aE this)];congr 1;simp only[AJ,h1,dR];congr 1;simp only[eq_iff_iff];omega
    ·have: ¬(65:Int)<=AJ c:=by grind[AJ]
     rw[aj (by grind),aJ (λh=>h1 h.1)]
   try dsimp only
   by_cases h1:65<=c.toNat/\c.toNat<=90
   ·rw[an (aE h1),AO (by simp<;>omega)];have e:FP c=UInt8.ofNat (c.toNat+32):=by simp_all[FP,AiR]
    have e2:AJ (FP c)=wr .u8 (AJ c+32):=by grind[AUt,AJ,toNat_ofNat]
    simp_all
   ·rw[aj (by grind)];have e:FP c=c:=by unfold FP AiR;rw[aj h1];simp
    rw[e]
  ·try dsimp only
   have:=ARl l hb k2 t (pre++[c]) (by grind);simp_all
def lower_eq (l:B8) (hb:l.length<=2^60):FI N l=some (l.map FP):=by unfold FI;rw[AB,AO (by grind[AL])];have:=ARl (N:=N) l hb (λj1=>grd (l.length<=j1.length/\AL l.length) (some (List.map FQ (List.take l.length j1)))) l [] rfl;simp only[cv,bm,ap]at this;rw[show(0:Int)=((0:Nat):Int)from rfl,this,AO (by grind[AL]),ba fI];congr 1;induction l with|nil=>rfl|cons c l ih=>simp[Qf]
def Z6: ∀l:B8,List.map FQ (List.map AJ l)=l|[]=>rfl|c::l=>by rw[aF,aF,Qf,Z6 l]
def ACQ:Nat->Nat->B8->B8|0,_,acc=>acc|k+1,n,acc=>if n / 10=0 then UInt8.ofNat (48+n % 10)::acc else ACQ k (n / 10) (UInt8.ofNat (48+n % 10)::acc)
def fmtS (n:Nat):B8:=ACQ 20 n []
theorem AUD: ∀(k n:Nat) (acc:B8),(ACQ k n acc).length<=acc.length+k
 |0,n,acc=>by simp[ACQ]
 |k+1,n,acc=>by
  rw[ACQ];split;·simp<;>omega
  ·have:=AUD k (n / 10) (UInt8.ofNat (48+n % 10)::acc);grind
theorem SV (n:Nat):(fmtS n).length<=20:=by grind[AUD,fmtS]
def Aws (n:Nat):wr .u64 ((n:Int).tdiv 10)=if n<2^64 then((n / 10:Nat):Int)else wr .u64 ((n:Int).tdiv 10):=by grind[Int.tdiv_eq_ediv_of_nonneg,FV]
def Ati{n:Nat} (h:n<2^64):wr .u64 ((n:Int).tdiv 10)=((n / 10:Nat):Int):=by rw[Aws,an h]
def Atb{n:Nat}:wr .u64 (48+(n:Int).tmod 10)=((48+n % 10:Nat):Int):=by grind[Int.tmod_eq_emod_of_nonneg,FV]
theorem YA: ∀(k n:Nat) (acc:B8),n<10^k->n<2^64->acc.length+k<=1000->∀m,k<=m->0<k->EC N m (n:Int) acc=some (ACQ k n acc)
 |0,n,acc,h,h2,ha,m,hm,hk=>by omega
 | k+1,n,acc,h,h2,ha,m+1,hm,hk=>by
  rw[EC,Ati h2,Atb,ACQ];rw[AO (by grind[AL])];have e:(List.map FQ [wr .u8 ((48+n % 10:Nat):Int)]++acc)=UInt8.ofNat (48+n % 10)::acc:=by rw[AWy,du (show 48+n % 10<256 by omega)];rfl
  rw[e];by_cases c:n / 10=0;·rw[an (by grind),an c]
  ·have c': ¬((((n / 10:Nat):Int))==0)=true:=by grind
   rw[aj c',aj c];have hk2:0<k:=by grind
   exact YA k (n / 10) _ fH fH (by grind) m fH hk2
def ABv (n:Nat) (h:n<2^64) (hN:20<=N):Gn N (n:Int)=some (fmtS n):=by grind[Gn,fmtS,YA]
def ARF (a:Nat) (x:Int) (acc:List Int):(List.replicate (a+1) 0++acc).set a x=List.replicate a 0++x::acc:=by rw[List.replicate_succ',aH];simp
def Xo (k2:Int×Int×List Int->Option B8) (R:B8->Option B8) (hk: ∀(n a:Nat) (acc:B8),n<10->a<=19->acc.length+a=19->k2 ((n:Int),(a:Int),List.replicate (a+1) 0++acc.map AJ)=R (UInt8.ofNat (48+n)::acc)):∀(j n a:Nat) (acc:B8),n<10^(j+1)->n<2^64->j<=a->a<=19->acc.length+a=19->∀m,j<m->Ew N k2 m (n:Int) (a:Int) (List.replicate (a+1) 0++acc.map AJ)=R (ACQ (j+1) n acc)
 |j,n,a,acc,h,h2,hj,ha,hl,0,hm=>by omega
 | j,n,a,acc,h,h2,hj,ha,hl,m+1,hm=>by
  rw[Ew,ACQ];by_cases c:n / 10=0;·have c': ¬(n:Int)>=10:=fH;rw[aj (by grind),an c,du fH];grind
  ·have c':(n:Int)>=10:=fH;rw[an (aE c'),aj c];obtain⟨j,rfl⟩: ∃i,j=i+1:=⟨j-1,by grind⟩;obtain⟨a,rfl⟩: ∃i,a=i+1:=⟨a-1,fH⟩;rw[AO fH,AO (by simp<;>omega),Ati h2,Atb,AWy,du (show 48+n % 10<256 by omega),Ai fH];rw[show((a+1:Nat):Int)-1=(a:Int) by simp,bH,ARF];have e:List.replicate (a+1) 0++((48+n % 10:Nat):Int)::List.map AJ acc=List.replicate (a+1) 0++List.map AJ (UInt8.ofNat (48+n % 10)::acc):=by rw[aF,NE,toNat_ofNat fH]
   rw[e];exact Xo k2 R hk j (n / 10) a _ fH fH fH fH (by grind) m fH
def ABQ (n:Nat) (h:n<2^64) (hN:20<=N):FT N (n:Int)=some (fmtS n):=by
 unfold FT fmtS;rw[AB];refine Xo (N:=N) _ some (λn a acc hn ha hl=>?_) 19 n 19 [] fH h fH fH rfl N fH;have w:wr .u8 (wr .u64 (48+(n:Int)))=((48+n:Nat):Int):=by rw[FV fH,show(48:Int)+(n:Int)=((48+n:Nat):Int) by simp,AWy,du fH]
 simp only[bH,w];rw[ARF];rw[AO fH,AO (by simp<;>omega),AO fH,AO (by grind[AL])];congr 1;rw[cu,bK fI,cr,dv,aO,bm,ba (by grind),aF,Z6];rfl
end
section
variable{N:Nat}
def Em:Nat->B8->Nat|n,[]=>n|n,c::l=>Em (n * 10+Gc c.toNat) l
def ABc: ∀(l:B8) (n:Nat),n<=Em n l|[],n=>by simp_all[Em]|c::l,n=>by have:=ABc l (n * 10+Gc c.toNat);grind[Em]
def QM{c:UInt8} (h:GH c=true):48<=c.toNat/\c.toNat<=57:=by grind[GH]
def PT{c:UInt8} (h:GH c=true):JX c=true/\Gc c.toNat=c.toNat-48:=by have:=QM h;simp_all[JX,UI,Gc]
def Atq (k2:Unit->Option (Int×Int)): ∀l:B8,BI N k2 l=if l.all GH=true then k2 ()else some (0,1)|[]=>by grind[BI]|c::l=>by rw[BI,YQ,aa,Atq k2 l];cases h:GH c<;>simp[h]
def At6{m:Nat} (hm:m<=18446744073709551615) (k9:Int->Option (Int×Int)): ∀(l:B8) (n:Nat),l.all GH=true->n<=m->BL N 10 (m:Int) k9 l (n:Int)=if Em n l<=m then k9 ((Em n l:Nat):Int)else some (0,4)
 |[],n,_,hn=>by simp_all[BL,Em]
 |c::l,n,h,hn=>by
  simp only[aQ,aw]at h;have hd:Gc c.toNat<=9:=by have:=QM h.1;rw[(PT h.1).2];omega
  obtain⟨hx,hv⟩:=PT h.1;have hge:=ABc l (n * 10+Gc c.toNat);rw[BL,Aae c hx,aa,AB,AO fJ];have w3:wr .u64 (18446744073709551615-((Gc c.toNat:Nat):Int))=18446744073709551615-((Gc c.toNat:Nat):Int):=FV fH;rw[w3,bF fH,FV (n:=(18446744073709551615-((Gc c.toNat:Nat):Int)) / 10) fH,Em];by_cases c1:(n:Int)>(18446744073709551615-((Gc c.toNat:Nat):Int)) / 10;·rw[an (aE c1),aj fH];rfl
  have w1:wr .u64 ((n:Int) * 10)=((n * 10:Nat):Int):=by grind[FV]
  have w2:wr .u64 (((n * 10:Nat):Int)+((Gc c.toNat:Nat):Int))=((n * 10+Gc c.toNat:Nat):Int):=by grind[FV]
  rw[aj (by grind),w1,w2];by_cases c2:n * 10+Gc c.toNat<=m;·have c3: ¬(((n * 10+Gc c.toNat:Nat):Int)>(m:Int)):=fH;rw[aJ c3];simp only[aq,az];exact At6 hm k9 l _ h.2 c2
  ·have c3:(((n * 10+Gc c.toNat:Nat):Int)>(m:Int)):=fH;rw[aE c3,aj fH];rfl
def AEQ{m:Nat} (hm:m<=18446744073709551615) (l:B8) (hb:l.length<=2^60):JP N l (m:Int)=some (if l=[]then(0,3)else if l.all GH=true then(if Em 0 l<=m then(((Em 0 l:Nat):Int),0)else(0,4))else(0,1)):=by
 unfold JP FJ;by_cases h:l=[];·grind
 ·rw[aj (by grind),aj h,AB,AO (by grind[AL]),Atq];by_cases h1:l.all GH=true;·rw[an h1,an h1,AB,AO (by grind[AL]),show(0:Int)=((0:Nat):Int)from rfl,At6 hm _ l 0 h1 fH];split<;>rfl
  ·rw[aj h1,aj h1];rfl
section
variable{s sg W F FR P EX:B8}
end
end
section
variable{N:Nat}
def AB9 (k2:Unit->Option Bool): ∀l:B8,BO N k2 l=if l.all GH=true then k2 ()else some false|[]=>by grind[BO]|c::l=>by rw[BO,YQ,aa,AB9 k2 l];cases h:GH c<;>simp[h]
def RD (l:B8) (hb:l.length<=2^60):KF N l=some (!l.isEmpty&&l.all GH):=by unfold KF FZ;cases l with|nil=>rfl|cons c l=>rw[aj fI,AB,A9 fH,AB9];cases h:(c::l).all GH<;>simp
def X3 (k2:Unit->Option Bool): ∀l:B8,Fy N k2 l=if l.all GH=true then k2 ()else some false|[]=>by grind[Fy]|c::l=>by rw[Fy,VO,aa,X3 k2 l];cases h:GH c<;>simp[h]
def WP (l:B8) (hb:l.length<=2^60):Ht N l=some (!l.isEmpty&&l.all GH):=by unfold Ht;rw[AB,A9 fH,X3];cases l with|nil=>rfl|cons c l=>cases h:(c::l).all GH<;>simp
def At9 (k2:Unit->Option (Int×Int)): ∀l:B8,D5 N 10 k2 l=if l.all GH=true then k2 ()else some (0,1)|[]=>by grind[D5]|c::l=>by rw[D5,AB,show((10:Int)==10)=true from rfl,show((10:Int)==16)=false from rfl,an rfl,VO,aa,At9 k2 l];cases h:GH c<;>simp[h]
def At4{m:Nat} (hm:m<=18446744073709551615) (hm9:9<=m) (k9:Int->Option (Int×Int)): ∀(l:B8) (n:Nat),l.all GH=true->n<=m->Cj N 10 (m:Int) k9 l (n:Int)=if Em n l<=m then k9 ((Em n l:Nat):Int)else some (0,4)
 |[],n,_,hn=>by simp_all[Cj,Em]
 | c::l,n,h,hn=>by
  simp only[aQ,aw]at h;have hr:=QM h.1;have hd:Gc c.toNat<=9:=by rw[(PT h.1).2];omega
  obtain⟨hx,hv⟩:=PT h.1;have c57: ¬(AJ c>57):=by grind[NE]
  have hdv:wr .u64 (wr .u8 (AJ c-48))=((Gc c.toNat:Nat):Int):=by grind[NE,AUt,FV]
  rw[Cj];dsimp only[AB];rw[aj (by grind),hdv,AO fJ,bF fH];have w3:wr .u64 ((m:Int)-((Gc c.toNat:Nat):Int))=(m:Int)-((Gc c.toNat:Nat):Int):=FV fH;have w4:wr .u64 ((m:Int) / 10)=(m:Int) / 10:=FV fH;rw[w3,w4,Em];have hge:=ABc l (n * 10+Gc c.toNat);by_cases c1:(n:Int)>(m:Int) / 10;·rw[an (aE c1),an rfl,aj fH]
  ·have w1:wr .u64 ((n:Int) * 10)=((n * 10:Nat):Int):=by grind[FV]
   rw[aj (by grind),w1];by_cases c2:((n * 10:Nat):Int)>(m:Int)-((Gc c.toNat:Nat):Int);·rw[an (aE c2),an rfl,aj fH]
   ·have w2:wr .u64 (((n * 10:Nat):Int)+((Gc c.toNat:Nat):Int))=((n * 10+Gc c.toNat:Nat):Int):=by grind[FV]
    rw[aj (by grind),aj (by grind),w2];exact At4 hm hm9 k9 l _ h.2 fH
def Vp (m:Nat) (l:B8):Int×Int:=if l=[]then(0,3)else if l.all GH=true then(if Em 0 l<=m then(((Em 0 l:Nat):Int),0)else(0,4))else(0,1)
def ACB{m:Nat} (hm:m<=18446744073709551615) (hm9:9<=m) (l:B8) (hb:l.length<=2^60):J4 N l 10 (m:Int)=some (Vp m l):=by
 unfold J4 Vp;by_cases h:l=[];·grind
 ·rw[aj (by grind),aj h,AB,A9 fH,At9];by_cases h1:l.all GH=true;·rw[an h1,an h1,AB,A9 fH,show(0:Int)=((0:Nat):Int)from rfl,At4 hm hm9 _ l 0 h1 fH];split<;>rfl
  ·rw[aj h1,aj h1]
def Dp (m:Nat) (l:B8):Int×Int:=if l=[]then(0,3)else if l.all GH=true then(if 1<l.length/\l.head?=some 48 then(0,6)else if Em 0 l<=m then(((Em 0 l:Nat):Int),0)else(0,4))else(0,1)
def b48 (c:UInt8):(AJ c==48)=decide (c=48):=by have:=Bt (f:=λn=>((n:Int)==48)) (g:=λn=>decide (UInt8.ofNat n=48)) (by kernel_rfl) c;simp only[bP]at this;exact this
def ACh (c:UInt8) (l:B8) (e:Int×Int):(if decide (((c::l).length:Int)>1)=true then(idx (c::l) 0).bind λx=>if(AJ x==48)=true then(some (0,6):Option (Int×Int))else some (e.1,e.2)else if false=true then some (0,6)else some (e.1,e.2))=some (if 1<(c::l).length/\(c::l).head?=some 48 then(0,6)else e):=by
 by_cases hl:1<(c::l).length
 ·rw[an (by simp only[au];omega),show idx (c::l) 0=some c from rfl,aa,b48];by_cases hc:c=48;·rw[aE hc,an rfl,an ⟨hl,by simp[hc]⟩]
  ·rw[aJ hc,aj fJ,aj (by simp[hc])]
 simp_all
def WW{m:Nat} (hm:m<=18446744073709551615) (l:B8) (hb:l.length<=2^60):H7 N l (m:Int)=some (Dp m l):=by
 unfold H7 Dp;dsimp only[AB];rw[RD l hb,aa,AEQ hm l hb,aa];cases l with
 |nil=>rfl
 |cons c l=>
  simp only[reduceCtorEq,az];obtain⟨b,h⟩: ∃b,(c::l).all GH=b:=⟨_,rfl⟩;rw[h];cases b;·simp
  ·rw[an (by rfl),an rfl,an rfl];have hd: ∀e:Int×Int,(if decide (((c::l).length:Int)>1)=true then(idx (c::l) 0).bind λx=>if(AJ x==48)=true then(some (0,6):Option (Int×Int))else some (e.1,e.2)else if false=true then some (0,6)else some (e.1,e.2))=some (if 1<(c::l).length/\(c::l).head?=some 48 then(0,6)else e):=ACh c l;simp_all
def ACS{m:Nat} (hm:m<=18446744073709551615) (hm9:9<=m) (l:B8) (hb:l.length<=2^60):L9 N l (m:Int)=some (Dp m l):=by
 have hp:=ACB (N:=N) hm hm9 l hb;unfold Vp at hp;unfold L9 Dp;rw[hp,aa];dsimp only[AB];cases l with
 |nil=>rfl
 | cons c l=>
  simp only[reduceCtorEq,az];obtain⟨b,h⟩: ∃b,(c::l).all GH=b:=⟨_,rfl⟩;rw[h];cases b;·rfl
  ·simp only[aB];have hd:=ACh c l;by_cases hv:Em 0 (c::l)<=m;·simp_all
   ·rw[aj hv,aj fI,an (by rfl)];grind
def AM5 (c:UInt8):Bool:=Me c||(GH c||decide (c=45))
def b45 (c:UInt8):(AJ c==45)=decide (c=45):=by have:=Bt (f:=λn=>((n:Int)==45)) (g:=λn=>decide (UInt8.ofNat n=45)) (by kernel_rfl) c;simp only[bP]at this;exact this
def AFa (k8:Unit->Option Bool): ∀l:B8,IC N k8 l=if l.all AM5=true then k8 ()else some false|[]=>by grind[IC]|c::l=>by rw[IC,AB,VJ,aa,YQ,aa,bne,b45,AFa k8 l,aQ];unfold AM5;cases Me c<;>cases GH c<;>cases decide (c=45)<;>simp
def AFU (k2:Unit->Option Bool): ∀l:B8,Gx N k2 l=if l.all AM5=true then k2 ()else some false|[]=>by grind[Gx]|c::l=>by rw[Gx,AB,U6,aa,VO,aa,bne,b45,AFU k2 l,aQ];unfold AM5;cases Me c<;>cases GH c<;>cases decide (c=45)<;>simp
def Qw (l:B8):Bool:=!l.isEmpty&&(decide (l.length<=63)&&(decide (l.head?≠some 45)&&(decide (l.getLast?≠some 45)&&l.all AM5)))
def AES{c:UInt8}{l:B8} (hb:(c::l).length<=2^60): ∃d,(c::l).getLast?=some d/\idx (c::l) (wr .i64 (((c::l).length:Int)-1))=some d:=by have hne:(c::l)≠ []:=fI;refine⟨(c::l).getLast hne,cc hne,?_⟩;rw[show wr .i64 (((c::l).length:Int)-1)=(((c::l).length-1:Nat):Int) by simp only[ae]at hb⊢;rw[Ai fH];omega,Ea,<-dA,cc hne]
def Abh (l:B8) (hb:l.length<=2^60):Qq N l=some (Qw l):=by
 unfold Qq Qw;dsimp only[AB];cases l with
 |nil=>rfl
 | cons c l=>
  obtain⟨d,h1,h2⟩:=AES hb;rw[aj fI,h2,h1,show idx (c::l) 0=some c from rfl,aa,aa,b45,b45,A9 fH,AFa];by_cases hl:(c::l).length<=63
  ·rw[aj (by simp only[au];omega),aE hl];by_cases hc:c=45;·simp_all
   ·rw[aJ hc,aj fJ];by_cases hd:d=45;·simp_all
    ·rw[aJ hd,aj fJ];obtain⟨b,hb2⟩: ∃b,(c::l).all AM5=b:=⟨_,rfl⟩;rw[hb2];cases b<;>simp[hc,hd]
  ·rw[an (by simp only[au];omega),an rfl,aJ hl];simp
def AgL (l:B8) (hb:l.length<=2^60):Pq N l=some (Qw l):=by
 unfold Pq Qw;dsimp only[AB];rw[A9 fH,AFU];cases l with
 |nil=>rfl
 | cons c l=>
  obtain⟨d,h1,h2⟩:=AES hb;obtain⟨b,hb2⟩: ∃b,(c::l).all AM5=b:=⟨_,rfl⟩;rw[aj (c:=((c::l==[])=true)) fI,h2,h1,show idx (c::l) 0=some c from rfl,aa,aa,bne,bne,b45,b45,hb2];cases b;·simp
  ·rw[an rfl];by_cases hl:(c::l).length<=63;·rw[an (by simp only[au];omega),aE hl];by_cases hc:c=45<;>simp_all
   ·rw[aj (by simp only[au];omega),aJ hl];simp
end
def AV (c:UInt8):B8->List B8|[]=>[[]]|x::t=>if x=c then []::AV c t else(match AV c t with|p::ps=>(x::p)::ps|[]=>[[x]])
theorem Fg (c:UInt8): ∀l:B8,AV c l≠ []|[]=>by simp[AV]|x::t=>by grind[AV]
def AX7 (cur:B8):List B8->List B8|p::ps=>(cur++p)::ps|[]=>[cur]
def AcF{c x:UInt8}{t cur:B8} (h: ¬x=c):AX7 cur (AV c (x::t))=AX7 (cur++[x]) (AV c t):=by rw[AV,aj h];grind[AV,absurd,AX7]
def IZ (c:UInt8): ∀l:B8,(AV c l).length<=l.length+1|[]=>by simp[AV]|x::t=>by have:=IZ c t;grind[AV]
def JO (c:UInt8): ∀(l p:B8),p∈AV c l->p.length<=l.length
 |[],p,h=>by grind[AV]
 | x::t,p,h=>by
  rw[AV]at h;split at h
  ·rcases aM.1 h with rfl|h;·simp
   ·have:=JO c t p h;grind
  ·split at h
   ·rename_i q qs hq;rcases aM.1 h with rfl|h;·have:=JO c t q (by grind);grind
    ·have:=JO c t p (by grind);grind
   grind
section
variable{N:Nat}
theorem AmR (x c:UInt8):(AJ x==AJ c)=decide (x=c):=by
 by_cases e:x=c;·grind
 ·have: ¬x.toNat=c.toNat:=λh=>e (dH.1 h);rw[aJ e];simp only[AJ,bv,ek];omega
def UN (l:B8) (c:UInt8) (hb:l.length<=1000000): ∀(t pre cur:B8) (out:List B8),l=pre++(cur++t)->out.length<=pre.length+cur.length->Fa N l (AJ c) (λj1=>(sub l j1.2 (l.length:Int)).bind λx11=>grd (Ae (j1.1.length+1) 16) (some (j1.1++[x11]))) t ((pre.length+cur.length:Nat):Int) out (pre.length:Int)=some (out++AX7 cur (AV c t))
 |[],pre,cur,out,h,ho=>by have hl:=br List.length h;simp only[ah,ap]at hl;rw[Fa];dsimp only;rw[A8 l pre.length l.length fH fH,aa,AO (by grind[Ae]),h,cX];simp[AV,AX7]
 | x::t,pre,cur,out,h,ho=>by
  have hl:=br List.length h;simp only[ah,ae]at hl;rw[Fa,AB,AmR];by_cases e:x=c
  ·rw[aE e,an rfl,A8 l pre.length (pre.length+cur.length) fH fH,aa,AO (by grind[Ae])];dsimp only;have:=UN l c hb t (pre++cur++[x]) [] (out++[cur]) (by grind) (by grind);have e1:(l.drop pre.length).take (pre.length+cur.length-pre.length)=cur:=by grind
   rw[e1,AV,an e];rw[show(((pre++cur++[x]).length+([]:B8).length:Nat):Int)=((pre.length+cur.length:Nat):Int)+1 by grind,show(((pre++cur++[x]).length:Nat):Int)=((pre.length+cur.length:Nat):Int)+1 by grind]at this;rw[this];cases hs:AV c t with|nil=>grind[absurd,Fg]|cons p ps=>simp[AX7]
  ·rw[aJ e,aj fJ,AcF e];dsimp only;have:=UN l c hb t pre (cur++[x]) out (by grind) (by grind);grind
def Qa (l:B8) (c:UInt8) (hb:l.length<=1000000):EZ N l (AJ c)=some (AV c l):=by unfold EZ;rw[AB,A9 fH];have:=UN (N:=N) l c hb l [] [] [] rfl fI;refine this.trans ?_;cases hs:AV c l with|nil=>grind[absurd,Fg]|cons p ps=>simp[AX7]
end
theorem MP (c:UInt8): ∀l:B8,AV c l=if(Af c l).2.2=true then(Af c l).1::AV c (Af c l).2.1 else [(Af c l).1]
 |[]=>by simp[AV,Af]
 | x::t=>by
  have ih:=MP c t;rw[AV];unfold Af at ih⊢;by_cases e:x=c;·simp_all
  ·have e1:(c==x)=false:=by grind
   have e3:(x !=c)=true:=by grind
   rw[aj e,bC,e1,be,bc,e3];cases hc:t.contains c<;>simp_all
section
variable{N:Nat}
def Ax8 (l:B8):Bool:=!l.isEmpty&&l.all GH
def Ud (l:B8):Bool:=(AV 46 l).all Qw&&!Ax8 ((AV 46 l).getLast (Fg 46 l))
def Aec (l:B8):Ud l=(Qw (Af 46 l).1&&if(Af 46 l).2.2=true then Ud (Af 46 l).2.1 else !Ax8 (Af 46 l).1):=by
 have h:=MP 46 l;unfold Ud;cases hc:(Af 46 l).2.2;·simp_all
 ·rw[hc]at h;simp only[aB]at h⊢;grind
def AQM{c:UInt8}{l:B8} (h:(Af c l).2.2=true):(Af c l).2.1.length<l.length:=by
 unfold Af at h⊢;cases hc:l.contains c;·grind
 ·have h1:=QA hc;have h2:(l.takeWhile (· !=c)).length+(l.dropWhile (· !=c)).length=l.length:=by grind[List.length_append,List.takeWhile_append_dropWhile]
  simp only[aB,aP];omega
def Asg (c:UInt8) (l:B8):(Af c l).1.length<=l.length:=by
 unfold Af;split;·grind[Sj]
 simp
def AB1: ∀(k:Nat) (l:B8),l.length<k->l.length<=2^60->KD N k l=some (Ud l)
 |0,l,h,_=>by omega
 | k+1,l,h,hb=>by
  have h1:=Asg 46 l;rw[KD,RJ 46 l hb,aa,Abh _ fH,aa,Aec l];cases Qw (Af 46 l).1;·rfl
  ·rw[an rfl,bQ];cases hc:(Af 46 l).2.2;·rw[aj fJ,RD _ fH,aa];rfl
   ·have:=AQM hc;rw[an rfl,an rfl];exact AB1 k _ fH fH
def AkP (l:B8) (hN:l.length<N) (hb:l.length<=2^60):VT N l=some (Ud l):=AB1 N l hN hb
def ACb (k4:Unit->Option Bool): ∀ps:List B8,(∀p,p∈ps->p.length<=2^60)->IJ N k4 ps=if ps.all Qw=true then k4 ()else some false|[],_=>by grind[IJ]|p::ps,h=>by rw[IJ,AgL p (h p fI),aa,ACb k4 ps λq hq=>h q (by grind),aQ];cases Qw p<;>simp
def Aki (l:B8) (hb:l.length<=1000000):Qn N l=some (Ud l):=by
 have hl:=IZ 46 l;have hp:=JO 46 l;have hne:=Fg 46 l;unfold Qn;rw[show(46:Int)=AJ 46 from rfl,Qa l 46 hb,aa];dsimp only[AB];rw[A9 fH,ACb _ _ λp h=>by grind];have hlast:idx (AV 46 l) (wr .i64 (((AV 46 l).length:Int)-1))=some ((AV 46 l).getLast hne):=by have:0<(AV 46 l).length:=bR.2 hne;rw[show wr .i64 (((AV 46 l).length:Int)-1)=(((AV 46 l).length-1:Nat):Int) by rw[Ai fH];omega,Ea,<-dA,cc hne]
 have:=hp _ (eY hne);rw[hlast,aa,WP _ fH,aa];unfold Ud;cases (AV 46 l).all Qw;·rfl
 ·rfl
def ARS (l:B8):Bool:=decide ((AV 46 l).length=4)&&(AV 46 l).all λp=>(Dp 255 p).2==0
def AEj (k4:Unit->Option Bool): ∀ps:List B8,(∀p,p∈ps->p.length<=2^60)->Fv N k4 ps=if(ps.all λp=>(Dp 255 p).2==0)=true then k4 ()else some false|[],_=>by grind[Fv]|p::ps,h=>by rw[Fv,show(255:Int)=((255:Nat):Int)from rfl,ACS fJ fJ p (h p fI),aa,AEj k4 ps λq hq=>h q (by grind),aQ];cases hx:((Dp 255 p).2==0)<;>simp[bne,hx]
def ArZ (l:B8) (hb:l.length<=1000000):MH N l=some (ARS l):=by
 have hl:=IZ 46 l;have hp:=JO 46 l;unfold MH;rw[show(46:Int)=AJ 46 from rfl,Qa l 46 hb,aa];dsimp only[AB];rw[A9 fH,AEj _ _ λp h=>by grind];unfold ARS;have e:(((AV 46 l).length:Int)==4)=decide ((AV 46 l).length=4):=by grind
 rw[e];cases ((AV 46 l).all λp=>(Dp 255 p).2==0)<;>simp
end
section
variable{N:Nat}
def AN4 (c:UInt8) (l:B8):strings_Index N l [c]=some (Go.Lib.indexByte l c):=by simp_all[strings_Index,BF]
def Y0{c:UInt8}{l:B8}:l.count c=0<->l.contains c=false:=by grind
theorem Y9{c:UInt8}: ∀ {l:B8},l.contains c=true->l.count c=((l.dropWhile (· !=c)).drop 1).count c+1
 |[],h=>by grind
 | x::t,h=>by
  by_cases hx:x=c;·simp_all
  ·have hx':(x !=c)=true:=by grind
   rw[bC,show(c==x)=false by grind,be]at h;rw[bX,an hx',List.count_cons,show(x==c)=false by grind,Y9 h];simp
theorem Hf{c:UInt8}{l:B8} (h:l.contains c=true):Af c l=(l.takeWhile (· !=c),(l.dropWhile (· !=c)).drop 1,true):=by simp_all[Af]
theorem TC{c:UInt8}{l:B8} (h:l.contains c=false):Af c l=(l,[],false):=by simp_all[Af]
def AIl{c:UInt8}{l:B8} (h:l.contains c=true) (hb:l.length<=1000000):sub l 0 (wr .i64 (Go.Lib.indexByte l c+0))=some (Af c l).1/\sub l (wr .i64 (Go.Lib.indexByte l c+(([c]:B8).length:Int))) (l.length:Int)=some (Af c l).2.1:=by
 have hlt:=QA h;rw[OY];unfold Af;simp only[h,aB];generalize hn:(l.takeWhile (· !=c)).length=n at *;have w:wr .i64 ((n:Int)+(([c]:B8).length:Int))=((n+1:Nat):Int):=by grind[Ai]
 have w0:wr .i64 ((n:Int)+0)=(n:Int):=by grind[Ai]
 rw[w,w0,show(0:Int)=((0:Nat):Int)from rfl,A8 l 0 n fH fH,A8 l (n+1) l.length fH fH];rw[aO,bB,<-hn,HZ,ba fI,<-aT,LB];simp
def ASV{c:UInt8}{a0:B8}{j3:Int}{M:Nat} (k10:B8×Int×List B8->Option (List B8)) (hE:(if(wr .i64 ((a0.length:Int)+1))<j3 then(wr .i64 ((a0.length:Int)+1))else j3)=((M:Nat):Int)) (hM:M<=2000000):∀(k:Nat) (s:B8) (done:List B8),s.count c=k->s.length<=1000000->done.length+k+1<=M->∃pre last,pre++[last]=done++AV c s/\pre.length=done.length+k/\Cc N a0 [c] 0 j3 k10 k (done.length:Int) s (done++List.replicate (k+1) [])=k10 (last,((done.length+k:Nat):Int),pre++[[]])
 |0,s,done,hc,hs,hd=>by
  have h0:=Y0.1 hc;refine⟨done,s,?_,rfl,?_⟩;·grind[MP,TC]
  grind[Cc]
 | k+1,s,done,hc,hs,hd=>by
  have h1:s.contains c=true:=by grind
  obtain⟨s1,s2⟩:=AIl h1 hs;have hcb:=Y9 h1;have hc1:(Af c s).2.1=(s.dropWhile (· !=c)).drop 1:=by rw[Hf h1]
  rw[<-hc1]at hcb;have hl:=JY c s;obtain⟨pre,last,p1,p2,p3⟩:=ASV (c:=c) k10 hE hM k (Af c s).2.1 (done++[(Af c s).1]) fH fH (by grind);refine⟨pre,last,?_,by grind,?_⟩;·rw[p1,MP c s,an (by rw[Hf h1])];simp
  ·rw[Cc,AN4,aa,aj (by rw[OY,an h1];simp),s1,aa,hE,AO (by constructor<;>omega),AO fI,s2,aa];have e1:(done++List.replicate (k+1+1) ([]:B8)).set (done.length:Int).toNat (Af c s).1=(done++[(Af c s).1])++List.replicate (k+1) []:=by rw[bH,dj _ _ (av _),dv,dC,cf];simp
   grind
def U7 (l:B8) (c:UInt8) (hb:l.length<=1000000):strings_Split N l [c]=some (AV c l):=by
 have hcl:l.count c<=l.length:=List.count_le_length;have hcnt:strings_Count N l [c]=some ((l.count c:Nat):Int):=by unfold strings_Count;rw[aj fI,an (by rfl),show idx [c] 0=some c from rfl,aa,Qf];rfl
 unfold strings_Split strings_genSplit;dsimp only[AB];rw[aj fJ,aj fI,an fJ,hcnt,aa];have w1:wr .i64 (((l.count c:Nat):Int)+1)=((l.count c+1:Nat):Int):=by grind[Ai]
 have w2:wr .i64 ((l.length:Int)+1)=((l.length+1:Nat):Int):=by grind[Ai]
 rw[w1];have hE:(if(wr .i64 ((l.length:Int)+1))<((l.count c+1:Nat):Int)then(wr .i64 ((l.length:Int)+1))else((l.count c+1:Nat):Int))=((l.count c+1:Nat):Int):=fH;obtain⟨pre,last,p1,p2,p3⟩:=ASV (N:=N) (c:=c) (a0:=l) (j3:=((l.count c+1:Nat):Int)) (M:=l.count c+1) (λj9:B8×Int×(List B8)=>grd (0<=j9.2.1/\j9.2.1<((if(wr .i64 ((l.length:Int)+1))<((l.count c+1:Nat):Int)then(wr .i64 ((l.length:Int)+1))else((l.count c+1:Nat):Int)).toNat:Int)) (grd (j9.2.1.toNat+1<=j9.2.2.length) (grd (0<=(wr .i64 (j9.2.1+1))/\(wr .i64 (j9.2.1+1))<=((if(wr .i64 ((l.length:Int)+1))<((l.count c+1:Nat):Int)then(wr .i64 ((l.length:Int)+1))else((l.count c+1:Nat):Int)).toNat:Int)) (grd ((wr .i64 (j9.2.1+1)).toNat<=j9.2.2.length) (some (List.take ((wr .i64 (j9.2.1+1)).toNat) (j9.2.2.set j9.2.1.toNat j9.1))))))) hE fH (l.count c) l [] rfl hb fI;have w3:(wr .i64 (((l.count c+1:Nat):Int)-1)-0).toNat=l.count c:=by grind[Ai]
 rw[hE]at p3⊢;rw[AO (by grind[YD]),AO fH,w3];simp only[bH]at p3⊢;simp only[bm,ap,bI]at p1 p2 p3;rw[show((0:Nat):Int)=0 from rfl]at p3;rw[p3];have w4:wr .i64 (((l.count c:Nat):Int)+1)=((pre.length+1:Nat):Int):=fH;rw[w4];simp only[bH];rw[AO fH,AO (by grind),AO fH,AO fI,aa];rw[<-p2,dj _ _ (av _),dv,cf,ba fI,p1]
end
section
variable{N:Nat}
section
variable{l t:B8}{i p:Nat}
end
end
section
variable{N:Nat}
section
variable{l:B8}
end
def Lp: ∀l:B8,List.map FQ (List.map AJ l)=l|[]=>rfl|c::l=>by rw[aF,aF,Qf,Lp l]
end
end Go.VM
