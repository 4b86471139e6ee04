import Derived.Test.YtmalodjbhonipaaGreatDoorVM2
import GoSem.Claim
import Derived.Test.YtmalodjbhonipaaGreatDoorDefs
import Derived.KernelRfl
set_option linter.unusedVariables false
set_option linter.unusedSimpArgs false
namespace Go.VM
theorem AQ{n:Int} (h: -9223372036854775808≤n∧n≤9223372036854775807):wr .i64 n=n:=by simp[wr,IntKind.wrap,IntKind.bits,IntKind.signed];omega
theorem HV{α:Type} (l:List α) (n:Nat):idx l (n:Int)=l[n]?:=by simp[idx]
theorem XN{α:Type} (pre suf:List α) (x:α):idx (pre++x::suf) (pre.length:Int)=some x:=by simp[idx]
theorem AGD{α:Type}{l pre suf:List α}{x:α} (h:l=pre++x::suf):idx l (pre.length:Int)=some x:=by rw[h];exact XN ..
theorem AQu{α:Type}{l pre suf:List α}{x:α} (h:l=pre++x::suf):decide ((pre.length:Int)<(l.length:Int))=true:=by subst h;simp only[al,aj,ae];omega
theorem NR{α:Type} (pre:List α) (x:α):(pre.length:Int)+1=((pre++[x]).length:Int):=eU
theorem Cm{α:Type} (l:List α) (a b:Nat) (h1:a≤b) (h2:b≤l.length):sub l (a:Int) (b:Int)=some ((l.drop a).take (b-a)):=by have h1':(a:Int)≤b:=eT;have h2':(b:Int)≤l.length:=eT;simp[sub,h1',h2']
theorem AU{α:Type}{c:Prop} [Decidable c]{x:Option α} (h:c):grd c x=x:=by simp[grd,h]
theorem O0{n b:Nat} (h:n≤1000000) (hb:b≤100000):CW n b:=by unfold CW;have:n * b≤1000000 * 100000:=Nat.mul_le_mul h hb;omega
theorem BR{α:Type}{n:Nat}{x:Option α} (h:n≤4611686018427387904):grd (AL n) x=x:=AU h
theorem AB{α β:Type} (k:α→Option β) (body:(α→Option β)→Option β){d:JD α}:AA k body d=body k:=rfl
end Go.VM
namespace Go.VM
theorem IW (c:UInt8):AC c=(c.toNat:Int):=rfl
theorem Kh (c:UInt8):FZ (AC c)=c:=by simp[FZ,AC]
theorem toNat_ofNat{n:Nat} (h:n<256):(UInt8.ofNat n).toNat=n:=by simp;omega
theorem AJb{P:Nat→Prop} [∀n,Decidable (P n)] (h:(List.range 256).all (fun n=>decide (P n))=true) (c:UInt8):P c.toNat:=by have:=br.1 h c.toNat (de.2 c.toNat_lt);simpa using this
theorem Vx{n:Int} (h:0≤n∧n<256):wr .u8 n=n:=by simp[wr,IntKind.wrap,IntKind.bits,IntKind.signed];omega
theorem JI{n:Int} (h:0≤n∧n<18446744073709551616):wr .u64 n=n:=by simp[wr,IntKind.wrap,IntKind.bits,IntKind.signed];omega
theorem AGq{n:Nat}:wr .u8 (n:Int)=((n % 256:Nat):Int):=by simp[wr,IntKind.wrap,IntKind.bits,IntKind.signed]
theorem AFa:(List.range 256).all (fun n=>decide (K7 .u8 (n:Int) 127=((n / 128 * 128:Nat):Int)∧K7 .u8 (n:Int) 31=((n / 32 * 32:Nat):Int)∧K7 .u8 (n:Int) 15=((n / 16 * 16:Nat):Int)∧K7 .u8 (n:Int) 7=((n / 8 * 8:Nat):Int)∧Jo .u8 (n:Int) 127=((n % 128:Nat):Int)∧Jo .u8 (n:Int) 31=((n % 32:Nat):Int)∧Jo .u8 (n:Int) 15=((n % 16:Nat):Int)∧Jo .u8 (n:Int) 7=((n % 8:Nat):Int)∧Jo .u8 (n:Int) 192=((n / 64 * 64:Nat):Int)∧Jo .u8 (n:Int) 63=((n % 64:Nat):Int)))=true:=by decide+kernel
theorem AGO (c:UInt8):K7 .u8 (AC c) 15=((c.toNat / 16 * 16:Nat):Int):=(AJb AFa c).2.2.1
end Go.VM
namespace Go.VM
section
variable{N:Nat}
end
end Go.VM
namespace Go.VM
def Ok{α:Type} (x:Option α) (P:α→Prop):Prop:= ∃a,x=some a∧P a
section
variable{α β:Type}{P:α→Prop}{Q:β→Prop}
theorem Ok.ret{a:α} (h:P a):Ok (some a) P:=⟨a,rfl,h⟩
theorem Ok.bind{x:Option β}{f:β→Option α} (h:Ok x Q) (k: ∀b,Q b→Ok (f b) P):Ok (Option.bind x f) P:=by obtain⟨b,rfl,hb⟩:=h;exact k b hb
theorem Ok.ite{c:Bool}{x y:Option α} (h1:c=true→Ok x P) (h2:c=false→Ok y P):Ok (if c=true then x else y) P:=by
 cases c;·simpa using h2 rfl
 ·simpa using h1 rfl
theorem Ok.grd{c:Prop} [Decidable c]{x:Option α} (hc:c) (h:Ok x P):Ok (grd c x) P:=by rw[AU hc];exact h
theorem Ok.join{k:β→Option α}{body:(β→Option α)→Option α}{d:JD β} (hb:Ok (body k) P):Ok (AA k body d) P:=hb
theorem Ok.meet (J:β→Prop){k:β→Option α}{body:(β→Option α)→Option α}{d:JD β} (hk: ∀b,J b→Ok (k b) P) (hb: ∀k':β→Option α,(∀b,J b→Ok (k' b) P)→Ok (body k') P):Ok (AA k body d) P:=hb k hk
theorem Ok.letL{x:β}{f:β→Option α} (h:Ok (f x) P):Ok (letL x f) P:=h
theorem Ok.mono{x:Option α}{P':α→Prop} (h:Ok x P) (k: ∀a,P a→P' a):Ok x P':=by obtain⟨a,e,ha⟩:=h;exact⟨a,e,k a ha⟩
theorem Ok.eq{x:Option α}{a:α} (h:x=some a):Ok x (· =a):=⟨a,h,rfl⟩
theorem Ok.idx{l:List α}{i:Int} (h0:0≤i) (h1:i<l.length):Ok (idx l i) (fun x=>l[i.toNat]?=some x):=by have:i.toNat<l.length:=eT;exact⟨l[i.toNat],by simp[VM.idx,h0,aN this],aN this⟩
theorem Ok.sub{l:List α}{a b:Int} (h0:0≤a) (h1:a≤b) (h2:b≤l.length):Ok (sub l a b) (fun x=>x=(l.drop a.toNat).take (b.toNat-a.toNat)∧x.length=(b-a).toNat):=by refine⟨_,by simp[VM.sub,h0,h1,h2],rfl,?_⟩;simp;omega
end
end Go.VM
namespace Go.VM
section
variable{N:Nat}
theorem JV{α:Type}{l t:List α}{x:α}{i j:Nat} (h:l.drop i=t) (hx:t[j]?=some x):idx l ((i+j:Nat):Int)=some x:=by rw[HV,←b7,h,hx]
theorem IQ{α:Type}{l t:List α}{i:Nat} (h:l.drop i=t) (hi:i≤l.length):l.length=i+t.length:=by have:=a7 List.length h;simp at this;omega
section
variable{l t:List UInt8}{i:Nat}{k13:Int→Option (Int×Int×Int)}
end
end
end Go.VM
namespace Go.VM
section
variable{N:Nat}
end
end Go.VM
namespace Go.VM
section
variable{N:Nat}
theorem Ct{α:Type} [DecidableEq α]{f g:Nat→α} (h:(List.range 256).all (fun n=>decide (f n=g n))=true) (c:UInt8):f c.toNat=g c.toNat:=by have:=br.1 h c.toNat (de.2 c.toNat_lt);simpa using this
def QE (n:Nat):Bool:=(decide (48≤n)&&decide (n≤57))||(decide (65≤n)&&decide (n≤70))||(decide (97≤n)&&decide (n≤102))
def KU (c:UInt8):Bool:=QE c.toNat
def IA (n:Nat):Nat:=if n≤57 then n-48 else if n≤70 then n-55 else n-87
theorem SA (c:UInt8) (h:KU c=true):IA c.toNat<16:=by simp only[KU,QE,cj,az,al]at h;unfold IA;split<;>(try split)<;>omega
theorem AHU (c:UInt8):I8 N (AC c)=some (KU c):=Ct (f:=fun n=>I8 N (n:Int)) (g:=fun n=>some (QE n)) (by kernel_rfl) c
theorem AHd (c:UInt8):FL N (AC c)=some (KU c):=Ct (f:=fun n=>FL N (n:Int)) (g:=fun n=>some (QE n)) (by kernel_rfl) c
theorem AR3 (c:UInt8) (h:KU c=true):JN N (AC c)=some ((IA c.toNat:Nat):Int):=by have:=Ct (f:=fun n=>if QE n=true then JN N (n:Int)else none) (g:=fun n=>if QE n=true then some ((IA n:Nat):Int)else none) (by kernel_rfl) c;simp only[show QE c.toNat=true from h,aE]at this;exact this
end
end Go.VM
namespace Go.VM
section
variable{N:Nat}
end
end Go.VM
namespace Go.VM
section
variable{N:Nat}
section
variable{l:List UInt8}
end
end
end Go.VM
namespace Go.VM
section
variable{N:Nat}
theorem Fv{α:Type} (p:α→Bool) (t:List α):t.take (t.takeWhile p).length=t.takeWhile p:=(List.prefix_iff_eq_take.1 (List.takeWhile_prefix p)).symm
theorem Kq{α:Type} (p:α→Bool) (t:List α):(t.takeWhile p).length≤t.length:=(eA p).length_le
def Fy (c:UInt8):Bool:=decide (48≤c.toNat)&&decide (c.toNat≤57)
def V9 (n:Nat):Bool:=(decide (65≤n)&&decide (n≤90))||(decide (97≤n)&&decide (n≤122))
def H7 (c:UInt8):Bool:=V9 c.toNat
theorem PZ (c:UInt8):Ce N (AC c)=some (Fy c):=Ct (f:=fun n=>Ce N (n:Int)) (g:=fun n=>some (decide (48≤n)&&decide (n≤57))) (by kernel_rfl) c
theorem OH (c:UInt8):BN N (AC c)=some (Fy c):=Ct (f:=fun n=>BN N (n:Int)) (g:=fun n=>some (decide (48≤n)&&decide (n≤57))) (by kernel_rfl) c
theorem N8 (c:UInt8):Fx N (AC c)=some (H7 c):=Ct (f:=fun n=>Fx N (n:Int)) (g:=fun n=>some (V9 n)) (by kernel_rfl) c
theorem Nw (c:UInt8):Dj N (AC c)=some (H7 c):=Ct (f:=fun n=>Dj N (n:Int)) (g:=fun n=>some (V9 n)) (by kernel_rfl) c
theorem ABx (c:UInt8) (k2:Unit→Option Bool) (h:k2 ()=some false): ∀l:List UInt8,EP N (AC c) k2 l=some (l.contains c)
 |[]=>by rw[EP];simpa using h
 | x::l=>by
  rw[EP,ABx c k2 h l,aX];by_cases e:x=c;·subst e;simp
  ·have e1: ¬c=x:=fun h=>e h.symm;have:(AC x==AC c)=false:=by have: ¬x.toNat=c.toNat:=fun h=>e (dC.1 h);simp only[AC,ck,dp];omega
   simp[this,e1]
theorem TF (c:UInt8) (l:List UInt8) (h:l.length≤1000):Ew N (AC c) l=some (l.contains c):=by unfold Ew;rw[AB,BR eT];exact ABx c _ rfl l
theorem I9 (l:List UInt8) (c:UInt8):strings_IndexByte N l (AC c)=some (Go.Lib.indexByte l c):=by unfold strings_IndexByte DN;rw[Kh];rfl
section
variable{l:List UInt8}
variable{t:List UInt8}{i:Nat}
end
end
end Go.VM
namespace Go.VM
section
variable{N:Nat}
theorem Bo{α β:Type}{K:α→Option β}{body:(α→Option β)→Option β}{a:α}{d:JD α} (h: ∀k:α→Option β,body k=k a):AA K body d=K a:=h K
end
end Go.VM
namespace Go.VM
section
variable{N:Nat}
theorem IB: ∀(l:List UInt8) (c:UInt8),Go.Lib.indexByte l c=if l.contains c=true then(((l.takeWhile (· !=c)).length:Nat):Int)else-1
 |[],c=>rfl
 | x::l,c=>by
  have ih:=IB l c;rw[Go.Lib.indexByte,aX];by_cases e:x=c;·subst e;simp
  ·have e1:(c==x)=false:=by simpa using fun h:c=x=>e h.symm
   have e2:(x==c)=false:=by simpa using e
   have e3:(x !=c)=true:=by simpa using e
   rw[e1,e2,bd,aP,e3];simp only[av,aR,aE,ae];by_cases k:l.contains c=true
   ·rw[ah k]at ih;rw[ah k,ih];have:(((((l.takeWhile (· !=c)).length:Nat):Int))== -1)=false:=by simp only[ck,dp];omega
    rw[this];simp
   ·rw[ag k]at ih;rw[ag k,ih];rfl
theorem GQ{α:Type} (p:α→Bool) (l:List α):l.drop (l.takeWhile p).length=l.dropWhile p:=by
 have:=aU (p:=p) (l:=l);conv=>lhs;rw[←this]
 rw[cD,cJ (by rw[this];exact ao _),this];simp
def AP (c:UInt8) (l:List UInt8):List UInt8×List UInt8×Bool:=if l.contains c=true then(l.takeWhile (· !=c),(l.dropWhile (· !=c)).drop 1,true)else(l,[],false)
theorem Je{c:UInt8}: ∀ {l:List UInt8},l.contains c=true→(l.takeWhile (· !=c)).length<l.length
 |[],h=>by cases h
 | x::l,h=>by
  rw[aP];by_cases e:x=c;·subst e;simp
  ·have e3:(x !=c)=true:=by simpa using e
   rw[aX]at h;have e1:(c==x)=false:=by simpa using fun h:c=x=>e h.symm
   rw[e1,bd]at h;rw[e3];have:=Je h;simp only[aE,ae];omega
theorem Kv (c:UInt8) (l:List UInt8) (hb:l.length≤2^60):strings_Cut N l [c]=some (AP c l):=by
 unfold strings_Cut Ep BV AP;have hI:(if((([c]:List UInt8).length:Int)==1)=true then some (Go.Lib.indexByte l (([c]:List UInt8).headD 0))else grd (l.length<4294967281) (some (Go.Lib.index l [c])))=some (Go.Lib.indexByte l c):=ah (by rfl);rw[hI,aa,IB];by_cases h:l.contains c=true
 ·have hlt:=Je h;simp only[h,aE];generalize hn:(l.takeWhile (· !=c)).length=n at *;have w:wr .i64 ((n:Int)+(([c]:List UInt8).length:Int))=((n+1:Nat):Int):=by rw[AQ (by simp<;>omega)];simp
  rw[ah eU,show(0:Int)=((0:Nat):Int)from rfl,Cm l 0 n eT eT,aa,w,Cm l (n+1) l.length eT eT,aa,aa];rw[aT,bA,←hn,Fv,aM eU,←a8,GQ]
 ·rw[ag h,ag h,ag eV,aa]
theorem FE (c:UInt8) (l:List UInt8):(AP c l).1.length≤l.length∧(AP c l).2.1.length≤l.length:=by
 unfold AP;split;·refine⟨Kq _ _,?_⟩;have:=(df (fun x=>x !=c) (l:=l)).length_le;simp only[aw];omega
 ·simp
def ADi (as:List Bool) (set:List UInt8):Prop:=as.length=256∧ ∀c:UInt8,as[c.toNat]?=some (set.contains c)
theorem ABJ (k2:List Bool→Option (List Bool×Bool)) (done:List UInt8): ∀(l:List UInt8) (done:List UInt8) (bn:List Bool),(∀c∈l,c.toNat<128)→ADi bn done→∃as,BF N k2 l bn=k2 as∧ADi as (done++l)
 |[],done,bn,hl,hs=>⟨bn,by rw[BF],by simpa using hs⟩
 | x::l,done,bn,hl,hs=>by
  have hx:=hl x eU;have c1: ¬AC x≥128:=by simp only[AC];omega
  obtain⟨as,h1,h2⟩:=ABJ k2 done l (done++[x]) (bn.set x.toNat true) (fun c hc=>hl c (by simp[hc])) ⟨by simp[hs.1],fun c=>by
   rw[bS];by_cases e:x.toNat=c.toNat;·have:x=c:=dC.1 e;subst this;rw[ah rfl,ah (by rw[hs.1];exact x.toNat_lt)];simp
   ·rw[ag e,hs.2 c];have: ¬c=x:=fun h=>e (by rw[h]);simp[this]⟩;refine⟨as,?_,by simpa using h2⟩;rw[BF,ag (by simpa using c1),AU (by simp only[AC];omega),AU (by rw[hs.1];simp only[AC,bl];omega)];exact h1
theorem AMu (set:List UInt8) (hl: ∀c∈set,c.toNat<128) (hb:set.length≤1000): ∃as,strings_makeASCIISet N set=some (as,true)∧ADi as set:=by unfold strings_makeASCIISet;rw[AB,AU (by unfold AL;omega)];obtain⟨as,h1,h2⟩:=ABJ (N:=N) (fun j1=>grd (j1.length=256) (some (j1,true))) [] set [] (AGJ 256) hl ⟨TZ,fun c=>by have:=c.toNat_lt;rw[AGJ,List.getElem?_replicate,ah eT];rfl⟩;exact⟨as,by rw[h1,AU h2.1],h2⟩
theorem ADh{as:List Bool}{set:List UInt8} (h:ADi as set) (c:UInt8):DV N as (AC c)=some (set.contains c,as):=by have:=c.toNat_lt;unfold DV;rw[AU (by simp only[AC];omega),IW,HV,h.2 c];rfl
def AMm (n:Nat):Nat:=if 65≤n∧n≤90 then n+32 else n
def E5 (c:UInt8):UInt8:=UInt8.ofNat (AMm c.toNat)
theorem AAY (l:List UInt8) (hb:l.length≤2^60) (k2:List Int→Option (List UInt8)): ∀(t pre:List UInt8),l=pre++t→EK N l k2 t (pre.length:Int) (List.map AC (pre.map E5)++List.map AC t)=k2 (List.map AC (l.map E5))
 |[],pre,h=>by rw[EK,h];simp
 | c::t,pre,h=>by
  have hlen:pre.length<l.length:=by rw[h];simp
  have hc:=c.toNat_lt;rw[EK];refine(Bo (a:=List.map AC (pre.map E5)++(AC (E5 c)::List.map AC t)) fun k7=>?_).trans ?_
  ·rw [AU eT,aK];have hi:idx (List.map AC (pre.map E5)++AC c::List.map AC t) (pre.length:Int)=some (AC c):=by have:=XN (List.map AC (pre.map E5)) (List.map AC t) (AC c);simpa using this
   rw[hi,aa];refine(Bo (a:=decide (65≤c.toNat∧c.toNat≤90)) fun k12=>?_).trans ?_
   ·by_cases h1:65≤c.toNat
    ·have:(65:Int)≤AC c:=by simp only[AC];omega
     rw[ah (aF this)];congr 1;simp only[AC,h1,eb];congr 1;simp only[eq_iff_iff];omega
    ·have: ¬(65:Int)≤AC c:=by simp only[AC];omega
     rw[ag (by simpa using this),aO (fun h=>h1 h.1)]
   try dsimp only
   by_cases h1:65≤c.toNat∧c.toNat≤90
   ·rw[ah (aF h1),AU (by simp<;>omega)];have e:E5 c=UInt8.ofNat (c.toNat+32):=by unfold E5 AMm;rw[ah h1]
    have e2:AC (E5 c)=wr .u8 (AC c+32):=by rw[e,Vx (by simp only[AC];omega)];simp only[AC];rw[toNat_ofNat eT];simp
    rw[←e2];congr 1;simp
   ·rw[ag (by simpa using h1)];have e:E5 c=c:=by unfold E5 AMm;rw[ag h1];simp
    rw[e]
  ·try dsimp only
   have:=AAY l hb k2 t (pre++[c]) (by rw[h];simp);rw[←NR]at this;rw[←this];simp
theorem lower_eq (l:List UInt8) (hb:l.length≤2^60):Gr N l=some (l.map E5):=by unfold Gr;rw[AB,AU (by unfold AL;omega)];have:=AAY (N:=N) l hb (fun j1=>grd (l.length≤j1.length∧AL l.length) (some (List.map FZ (List.take l.length j1)))) l [] rfl;simp only[cy,ba,an]at this;rw[show(0:Int)=((0:Nat):Int)from rfl,this,AU (by unfold AL;simp;omega),aM eU];congr 1;induction l with |nil=>rfl|cons c l ih=>simp[Kh]
end
end Go.VM
namespace Go.VM
section
variable{N:Nat}
theorem RS: ∀l:List UInt8,List.map FZ (List.map AC l)=l |[]=>rfl|c::l=>by rw[aK,aK,Kh,RS l]
def YD:Nat→Nat→List UInt8→List UInt8 |0,_,acc=>acc|k+1,n,acc=>if n / 10=0 then UInt8.ofNat (48+n % 10)::acc else YD k (n / 10) (UInt8.ofNat (48+n % 10)::acc)
def fmtS (n:Nat):List UInt8:=YD 20 n []
theorem AD3: ∀(k n:Nat) (acc:List UInt8),(YD k n acc).length≤acc.length+k
 |0,n,acc=>by simp[YD]
 | k+1,n,acc=>by
  rw[YD];split;·simp<;>omega
  ·have:=AD3 k (n / 10) (UInt8.ofNat (48+n % 10)::acc);simp only[ae]at this;omega
theorem T9 (n:Nat):(fmtS n).length≤20:=by have:=AD3 20 n [];simpa[fmtS]using this
theorem AVr (n:Nat):wr .u64 ((n:Int).tdiv 10)=if n<2^64 then((n / 10:Nat):Int)else wr .u64 ((n:Int).tdiv 10):=by
 split;·rw[co eT,JI eT];simp
 ·rfl
theorem AUs{n:Nat} (h:n<2^64):wr .u64 ((n:Int).tdiv 10)=((n / 10:Nat):Int):=by rw[AVr,ah h]
theorem AU6{n:Nat}:wr .u64 (48+(n:Int).tmod 10)=((48+n % 10:Nat):Int):=by rw[Int.tmod_eq_emod_of_nonneg eT,JI eT];simp
theorem PW: ∀(k n:Nat) (acc:List UInt8),n<10^k→n<2^64→acc.length+k≤1000→∀m,k≤m→0<k→Cw N m (n:Int) acc=some (YD k n acc)
 |0,n,acc,h,h2,ha,m,hm,hk=>by omega
 | k+1,n,acc,h,h2,ha,m+1,hm,hk=>by
  rw[Cw,AUs h2,AU6,YD];rw[AU (by unfold AL;simp<;>omega)];have e:(List.map FZ [wr .u8 ((48+n % 10:Nat):Int)]++acc)=UInt8.ofNat (48+n % 10)::acc:=by rw[AGq,dt (show 48+n % 10<256 by omega)];rfl
  rw[e];by_cases c:n / 10=0;·rw[ah (by rw[c];rfl),ah c]
  ·have c': ¬((((n / 10:Nat):Int))==0)=true:=by simp<;>omega
   rw[ag c',ag c];have hk2:0<k:=by cases k with |zero=>simp at h;omega|succ=>omega
   exact PW k (n / 10) _ (by rw[eR]at h;omega) eT (by simp<;>omega) m eT hk2
theorem AGI (n:Nat) (h:n<2^64) (hN:20≤N):En N (n:Int)=some (fmtS n):=by unfold En fmtS;exact PW 20 n [] eT h eU N hN eT
theorem ADy (a:Nat) (x:Int) (acc:List Int):(List.replicate (a+1) 0++acc).set a x=List.replicate a 0++x::acc:=by rw[List.replicate_succ',bb];simp
theorem QJ (k2:Int×Int×List Int→Option (List UInt8)) (R:List UInt8→Option (List UInt8)) (hk: ∀(n a:Nat) (acc:List UInt8),n<10→a≤19→acc.length+a=19→k2 ((n:Int),(a:Int),List.replicate (a+1) 0++acc.map AC)=R (UInt8.ofNat (48+n)::acc)):∀(j n a:Nat) (acc:List UInt8),n<10^(j+1)→n<2^64→j≤a→a≤19→acc.length+a=19→∀m,j<m→Dx N k2 m (n:Int) (a:Int) (List.replicate (a+1) 0++acc.map AC)=R (YD (j+1) n acc)
 |j,n,a,acc,h,h2,hj,ha,hl,0,hm=>by omega
 | j,n,a,acc,h,h2,hj,ha,hl,m+1,hm=>by
  rw[Dx,YD];by_cases c:n / 10=0;·have c': ¬(n:Int)≥10:=eT;rw[ag (by simpa using c'),ah c,dt eT];exact hk n a acc eT ha hl
  ·have c':(n:Int)≥10:=eT;rw[ah (aF c'),ag c];obtain⟨j,rfl⟩: ∃i,j=i+1:=⟨j-1,by cases j with |zero=>simp at h;omega|succ=>omega⟩;obtain⟨a,rfl⟩: ∃i,a=i+1:=⟨a-1,eT⟩;rw[AU eT,AU (by simp<;>omega),AUs h2,AU6,AGq,dt (show 48+n % 10<256 by omega),AQ eT];rw[show((a+1:Nat):Int)-1=(a:Int) by simp,bl,ADy];have e:List.replicate (a+1) 0++((48+n % 10:Nat):Int)::List.map AC acc=List.replicate (a+1) 0++List.map AC (UInt8.ofNat (48+n % 10)::acc):=by rw[aK,IW,toNat_ofNat eT]
   rw[e];exact QJ k2 R hk j (n / 10) a _ (by rw[eR]at h;omega) eT eT eT (by simp<;>omega) m eT
theorem AFM (n:Nat) (h:n<2^64) (hN:20≤N):Gc N (n:Int)=some (fmtS n):=by
 unfold Gc fmtS;rw[AB];refine QJ (N:=N) _ some (fun n a acc hn ha hl=>?_) 19 n 19 [] eT h eT eT rfl N eT;have w:wr .u8 (wr .u64 (48+(n:Int)))=((48+n:Nat):Int):=by rw[JI eT,show(48:Int)+(n:Int)=((48+n:Nat):Int) by simp,AGq,dt eT]
 simp only[bl,w];rw[ADy];rw[AU eT,AU (by simp<;>omega),AU eT,AU (by unfold AL;simp<;>omega)];congr 1;rw[cD,cJ eU,cM,cQ,aT,ba,aM (by simp<;>omega),aK,RS];rfl
end
end Go.VM
namespace Go.VM
structure NumP (s sg W F FR P EX:List UInt8):Prop where
  eq:s=sg++(W++(FR++EX))
  sg:sg=[]∨sg=[45]
  Wd:W.all Fy=true
  Wn:W≠ []
  fr:(FR=[]∧F=[])∨FR=46::F
  Fd:F.all Fy=true
  ex:(EX=[]∧P=[])∨EX=101::P∨EX=69::P
  pw:P=[]∨ ∃sn D,P=sn++D∧(sn=[]∨sn=[43]∨sn=[45])∧D≠ []∧D.all Fy=true
end Go.VM
namespace Go.VM
section
variable{N:Nat}
def Hw:Nat→List UInt8→Nat |n,[]=>n|n,c::l=>Hw (n * 10+IA c.toNat) l
theorem Si: ∀(l:List UInt8) (n:Nat),n≤Hw n l |[],n=>by rw[Hw];exact ao _| c::l,n=>by have:=Si l (n * 10+IA c.toNat);rw[Hw];omega
theorem Z8{c:UInt8} (h:Fy c=true):48≤c.toNat∧c.toNat≤57:=by simpa[Fy]using h
theorem SN{c:UInt8} (h:Fy c=true):KU c=true∧IA c.toNat=c.toNat-48:=by
 have:=Z8 h;refine⟨?_,?_⟩;·simp only[KU,QE,cj,az,al];omega
 ·unfold IA;rw[ah this.2]
theorem AUy (k2:Unit→Option (Int×Int)): ∀l:List UInt8,Ai N k2 l=if l.all Fy=true then k2 ()else some (0,1) |[]=>by rw[Ai];rfl| c::l=>by rw[Ai,PZ,aa,AUy k2 l];cases h:Fy c<;>simp[h]
theorem AVC{m:Nat} (hm:m≤18446744073709551615) (k9:Int→Option (Int×Int)): ∀(l:List UInt8) (n:Nat),l.all Fy=true→n≤m→Ah N 10 (m:Int) k9 l (n:Int)=if Hw n l≤m then k9 ((Hw n l:Nat):Int)else some (0,4)
 |[],n,_,hn=>by rw[Ah,Hw,ah hn]
 | c::l,n,h,hn=>by
  simp only[aG,az]at h;have hd:IA c.toNat≤9:=by have:=Z8 h.1;rw[(SN h.1).2];omega
  obtain⟨hx,hv⟩:=SN h.1;have hge:=Si l (n * 10+IA c.toNat);rw[Ah,AR3 c hx,aa,AB,AU eV];have w3:wr .u64 (18446744073709551615-((IA c.toNat:Nat):Int))=18446744073709551615-((IA c.toNat:Nat):Int):=JI eT;rw[w3,co eT,JI (n:=(18446744073709551615-((IA c.toNat:Nat):Int)) / 10) eT,Hw];by_cases c1:(n:Int)>(18446744073709551615-((IA c.toNat:Nat):Int)) / 10;·rw[ah (aF c1),ag eT];rfl
  have w1:wr .u64 ((n:Int) * 10)=((n * 10:Nat):Int):=by rw[JI eT];simp
  have w2:wr .u64 (((n * 10:Nat):Int)+((IA c.toNat:Nat):Int))=((n * 10+IA c.toNat:Nat):Int):=by rw[JI eT];simp
  rw[ag (by simpa using c1),w1,w2];by_cases c2:n * 10+IA c.toNat≤m;·have c3: ¬(((n * 10+IA c.toNat:Nat):Int)>(m:Int)):=eT;rw[aO c3];simp only[av,aR];exact AVC hm k9 l _ h.2 c2
  ·have c3:(((n * 10+IA c.toNat:Nat):Int)>(m:Int)):=eT;rw[aF c3,ag eT];rfl
theorem AIZ{m:Nat} (hm:m≤18446744073709551615) (l:List UInt8) (hb:l.length≤2^60):Jg N l (m:Int)=some (if l=[]then(0,3)else if l.all Fy=true then(if Hw 0 l≤m then(((Hw 0 l:Nat):Int),0)else(0,4))else(0,1)):=by
 unfold Jg D6;by_cases h:l=[];·subst h;rfl
 ·rw[ag (by simpa using h),ag h,AB,AU (by unfold AL;omega),AUy];by_cases h1:l.all Fy=true;·rw[ah h1,ah h1,AB,AU (by unfold AL;omega),show(0:Int)=((0:Nat):Int)from rfl,AVC hm _ l 0 h1 eT];split<;>rfl
  ·rw[ag h1,ag h1];rfl
section
variable{s sg W F FR P EX:List UInt8}
theorem NumP.len (h:NumP s sg W F FR P EX):s.length=sg.length+(W.length+(FR.length+EX.length))∧F.length≤FR.length∧P.length≤EX.length:=by
 refine⟨by rw[h.eq];simp,?_,?_⟩
 ·rcases h.fr with⟨e1,e2⟩|e;·rw[e2];simp
  ·rw[e];simp
 ·rcases h.ex with⟨e1,e2⟩|e|e;·rw[e2];simp
  ·rw[e];simp
  ·rw[e];simp
end
end
end Go.VM
namespace Go.VM
section
variable{N:Nat}
theorem TE (k2:Unit→Option Bool): ∀l:List UInt8,Aj N k2 l=if l.all Fy=true then k2 ()else some false |[]=>by rw[Aj];rfl| c::l=>by rw[Aj,PZ,aa,TE k2 l];cases h:Fy c<;>simp[h]
theorem NY (l:List UInt8) (hb:l.length≤2^60):Ho N l=some (!l.isEmpty&&l.all Fy):=by unfold Ho EE;cases l with |nil=>rfl| cons c l=>rw[ag (by exact cp),AB,BR eT,TE];cases h:(c::l).all Fy<;>simp
theorem Pk (k2:Unit→Option Bool): ∀l:List UInt8,Dq N k2 l=if l.all Fy=true then k2 ()else some false |[]=>by rw[Dq];rfl| c::l=>by rw[Dq,OH,aa,Pk k2 l];cases h:Fy c<;>simp[h]
theorem AGL (l:List UInt8) (hb:l.length≤2^60):JX N l=some (!l.isEmpty&&l.all Fy):=by unfold JX;rw[AB,BR eT,Pk];cases l with |nil=>rfl|cons c l=>cases h:(c::l).all Fy<;>simp
theorem AUq (k2:Unit→Option (Int×Int)): ∀l:List UInt8,CV N 10 k2 l=if l.all Fy=true then k2 ()else some (0,1) |[]=>by rw[CV];rfl| c::l=>by rw[CV,AB,show((10:Int)==10)=true from rfl,show((10:Int)==16)=false from rfl,ah rfl,OH,aa,AUq k2 l];cases h:Fy c<;>simp[h]
theorem AU9{m:Nat} (hm:m≤18446744073709551615) (hm9:9≤m) (k9:Int→Option (Int×Int)): ∀(l:List UInt8) (n:Nat),l.all Fy=true→n≤m→CU N 10 (m:Int) k9 l (n:Int)=if Hw n l≤m then k9 ((Hw n l:Nat):Int)else some (0,4)
 |[],n,_,hn=>by rw[CU,Hw,ah hn]
 | c::l,n,h,hn=>by
  simp only[aG,az]at h;have hr:=Z8 h.1;have hd:IA c.toNat≤9:=by rw[(SN h.1).2];omega
  obtain⟨hx,hv⟩:=SN h.1;have c57: ¬(AC c>57):=by rw[IW];omega
  have hdv:wr .u64 (wr .u8 (AC c-48))=((IA c.toNat:Nat):Int):=by rw[IW,Vx eT,JI eT,hv];omega
  rw[CU];dsimp only[AB];rw[ag (by simpa using c57),hdv,AU eV,co eT];have w3:wr .u64 ((m:Int)-((IA c.toNat:Nat):Int))=(m:Int)-((IA c.toNat:Nat):Int):=JI eT;have w4:wr .u64 ((m:Int) / 10)=(m:Int) / 10:=JI eT;rw[w3,w4,Hw];have hge:=Si l (n * 10+IA c.toNat);by_cases c1:(n:Int)>(m:Int) / 10;·rw[ah (aF c1),ah rfl,ag eT]
  ·have w1:wr .u64 ((n:Int) * 10)=((n * 10:Nat):Int):=by rw[JI eT];simp
   rw[ag (by simpa using c1),w1];by_cases c2:((n * 10:Nat):Int)>(m:Int)-((IA c.toNat:Nat):Int);·rw[ah (aF c2),ah rfl,ag eT]
   ·have w2:wr .u64 (((n * 10:Nat):Int)+((IA c.toNat:Nat):Int))=((n * 10+IA c.toNat:Nat):Int):=by rw[JI eT];simp
    rw[ag (by simpa using c2),ag eW,w2];exact AU9 hm hm9 k9 l _ h.2 eT
def AWY (m:Nat) (l:List UInt8):Int×Int:=if l=[]then(0,3)else if l.all Fy=true then(if Hw 0 l≤m then(((Hw 0 l:Nat):Int),0)else(0,4))else(0,1)
theorem ANL{m:Nat} (hm:m≤18446744073709551615) (hm9:9≤m) (l:List UInt8) (hb:l.length≤2^60):Gz N l 10 (m:Int)=some (AWY m l):=by
 unfold Gz AWY;by_cases h:l=[];·subst h;rfl
 ·rw[ag (by simpa using h),ag h,AB,BR eT,AUq];by_cases h1:l.all Fy=true;·rw[ah h1,ah h1,AB,BR eT,show(0:Int)=((0:Nat):Int)from rfl,AU9 hm hm9 _ l 0 h1 eT];split<;>rfl
  ·rw[ag h1,ag h1]
def Ee (m:Nat) (l:List UInt8):Int×Int:=if l=[]then(0,3)else if l.all Fy=true then(if 1<l.length∧l.head?=some 48 then(0,6)else if Hw 0 l≤m then(((Hw 0 l:Nat):Int),0)else(0,4))else(0,1)
theorem b48 (c:UInt8):(AC c==48)=decide (c=48):=by have:=Ct (f:=fun n=>((n:Int)==48)) (g:=fun n=>decide (UInt8.ofNat n=48)) (by kernel_rfl) c;simp only[bL]at this;exact this
theorem Td (c:UInt8) (l:List UInt8) (e:Int×Int):(if decide (((c::l).length:Int)>1)=true then Option.bind (idx (c::l) 0) fun x=>if(AC x==48)=true then(some (0,6):Option (Int×Int))else some (e.1,e.2)else if false=true then some (0,6)else some (e.1,e.2))=some (if 1<(c::l).length∧(c::l).head?=some 48 then(0,6)else e):=by
 by_cases hl:1<(c::l).length
 ·rw[ah (by simp only[al];omega),show idx (c::l) 0=some c from rfl,aa,b48];by_cases hc:c=48;·rw[aF hc,ah rfl,ah ⟨hl,by simp[hc]⟩]
  ·rw[aO hc,ag eV,ag (by simp[hc])]
 ·rw[ag (by simp only[al];omega),ag eV,ag (fun h=>hl h.1)]
theorem TY{m:Nat} (hm:m≤18446744073709551615) (l:List UInt8) (hb:l.length≤2^60):Gb N l (m:Int)=some (Ee m l):=by
 unfold Gb Ee;dsimp only[AB];rw[NY l hb,aa,AIZ hm l hb,aa];cases l with
 |nil=>rfl
 | cons c l=>
  simp only[reduceCtorEq,aR];obtain⟨b,h⟩: ∃b,(c::l).all Fy=b:=⟨_,rfl⟩;rw[h];cases b;·rw[ag eU,ag eV];rfl
  ·rw[ah (by rfl),ah rfl,ah rfl];have hd: ∀e:Int×Int,(if decide (((c::l).length:Int)>1)=true then Option.bind (idx (c::l) 0) fun x=>if(AC x==48)=true then(some (0,6):Option (Int×Int))else some (e.1,e.2)else if false=true then some (0,6)else some (e.1,e.2))=some (if 1<(c::l).length∧(c::l).head?=some 48 then(0,6)else e):=Td c l;by_cases hv:Hw 0 (c::l)≤m;·rw[ah hv];exact hd (((Hw 0 (c::l):Nat):Int),0)
   ·rw[ag hv];exact hd (0,4)
theorem SV{m:Nat} (hm:m≤18446744073709551615) (hm9:9≤m) (l:List UInt8) (hb:l.length≤2^60):Hr N l (m:Int)=some (Ee m l):=by
 have hp:=ANL (N:=N) hm hm9 l hb;unfold AWY at hp;unfold Hr Ee;rw[hp,aa];dsimp only[AB];cases l with
 |nil=>rfl
 | cons c l=>
  simp only[reduceCtorEq,aR];obtain⟨b,h⟩: ∃b,(c::l).all Fy=b:=⟨_,rfl⟩;rw[h];cases b;·rfl
  ·simp only[aE];have hd:=Td c l;by_cases hv:Hw 0 (c::l)≤m;·rw[ah hv,ah (by rfl)];exact hd (((Hw 0 (c::l):Nat):Int),0)
   ·rw[ag hv,ag (by exact cp),ah (by rfl)];exact hd (0,4)
end
end Go.VM
namespace Go.VM
section
variable{N:Nat}
def AFZ (c:UInt8):Bool:=H7 c||(Fy c||decide (c=45))
theorem b45 (c:UInt8):(AC c==45)=decide (c=45):=by have:=Ct (f:=fun n=>((n:Int)==45)) (g:=fun n=>decide (UInt8.ofNat n=45)) (by kernel_rfl) c;simp only[bL]at this;exact this
theorem VX (k8:Unit→Option Bool): ∀l:List UInt8,Ej N k8 l=if l.all AFZ=true then k8 ()else some false |[]=>by rw[Ej];rfl| c::l=>by rw[Ej,AB,N8,aa,PZ,aa,bne,b45,VX k8 l,aG];unfold AFZ;cases H7 c<;>cases Fy c<;>cases decide (c=45)<;>simp
theorem Ve (k2:Unit→Option Bool): ∀l:List UInt8,EJ N k2 l=if l.all AFZ=true then k2 ()else some false |[]=>by rw[EJ];rfl| c::l=>by rw[EJ,AB,Nw,aa,OH,aa,bne,b45,Ve k2 l,aG];unfold AFZ;cases H7 c<;>cases Fy c<;>cases decide (c=45)<;>simp
def Js (l:List UInt8):Bool:=!l.isEmpty&&(decide (l.length≤63)&&(decide (l.head?≠some 45)&&(decide (l.getLast?≠some 45)&&l.all AFZ)))
theorem U6{c:UInt8}{l:List UInt8} (hb:(c::l).length≤2^60): ∃d,(c::l).getLast?=some d∧idx (c::l) (wr .i64 (((c::l).length:Int)-1))=some d:=by have hne:(c::l)≠ []:=eU;refine⟨(c::l).getLast hne,cc hne,?_⟩;rw[show wr .i64 (((c::l).length:Int)-1)=(((c::l).length-1:Nat):Int) by simp only[ae]at hb⊢;rw[AQ eT];omega,HV,←cS,cc hne]
theorem AJd (l:List UInt8) (hb:l.length≤2^60):Ko N l=some (Js l):=by
 unfold Ko Js;dsimp only[AB];cases l with
 |nil=>rfl
 | cons c l=>
  obtain⟨d,h1,h2⟩:=U6 hb;rw[ag (by exact cp),h2,h1,show idx (c::l) 0=some c from rfl,aa,aa,b45,b45,BR eT,VX];by_cases hl:(c::l).length≤63
  ·rw [ag (by simp only[al];omega),aF hl];by_cases hc:c=45;·rw[aF hc,ah rfl,ah rfl];simp[hc]
   ·rw[aO hc,ag eV];by_cases hd:d=45;·rw[aF hd,ah rfl];simp[hd]
    ·rw[aO hd,ag eV];obtain⟨b,hb2⟩: ∃b,(c::l).all AFZ=b:=⟨_,rfl⟩;rw[hb2];cases b<;>simp[hc,hd]
  ·rw[ah (by simp only[al];omega),ah rfl,aO hl];simp
theorem AKE (l:List UInt8) (hb:l.length≤2^60):J6 N l=some (Js l):=by
 unfold J6 Js;dsimp only[AB];rw[BR eT,Ve];cases l with
 |nil=>rfl
 | cons c l=>
  obtain⟨d,h1,h2⟩:=U6 hb;obtain⟨b,hb2⟩: ∃b,(c::l).all AFZ=b:=⟨_,rfl⟩;rw[ag (c:=((c::l==[])=true)) (by exact cp),h2,h1,show idx (c::l) 0=some c from rfl,aa,aa,bne,bne,b45,b45,hb2];cases b;·simp
  ·rw [ah rfl];by_cases hl:(c::l).length≤63
   ·rw[ah (by simp only[al];omega),aF hl];by_cases hc:c=45;·rw[aF hc,ag eV];simp[hc]
    ·rw[aO hc,ah eV];by_cases hd:d=45<;>simp[hc,hd]
   ·rw[ag (by simp only[al];omega),aO hl];simp
end
end Go.VM
namespace Go.VM
def Al (c:UInt8):List UInt8→List (List UInt8) |[]=>[[]]|x::t=>if x=c then []::Al c t else(match Al c t with|p::ps=>(x::p)::ps|[]=>[[x]])
theorem He (c:UInt8): ∀l:List UInt8,Al c l≠ []
 |[]=>by simp[Al]
 | x::t=>by
  rw[Al];split;·simp
  ·split<;>simp
def AE1 (cur:List UInt8):List (List UInt8)→List (List UInt8) |p::ps=>(cur++p)::ps|[]=>[cur]
theorem AJi{c x:UInt8}{t cur:List UInt8} (h: ¬x=c):AE1 cur (Al c (x::t))=AE1 (cur++[x]) (Al c t):=by rw[Al,ag h];cases hs:Al c t with |nil=>exact absurd hs (He c t)|cons p ps=>simp[AE1]
theorem Ih (c:UInt8): ∀l:List UInt8,(Al c l).length≤l.length+1
 |[]=>by simp[Al]
 | x::t=>by
  have:=Ih c t;rw[Al];split;·simp only[ae];omega
  ·split;·rename_i h;rw[h]at this;simp only[ae]at this⊢;omega
   ·simp
theorem Fp (c:UInt8): ∀(l p:List UInt8),p∈Al c l→p.length≤l.length
 |[],p,h=>by simp[Al]at h;subst h;simp
 | x::t,p,h=>by
  rw[Al]at h;split at h
  ·rcases aL.1 h with rfl|h;·simp
   ·have:=Fp c t p h;simp only[ae];omega
  ·split at h
   ·rename_i q qs hq;rcases aL.1 h with rfl|h;·have:=Fp c t q (by rw[hq];simp);simp only[ae];omega
    ·have:=Fp c t p (by rw[hq];simp[h]);simp only[ae];omega
   ·simp only[bh]at h;subst h;simp
section
variable{N:Nat}
theorem AT9 (x c:UInt8):(AC x==AC c)=decide (x=c):=by
 by_cases e:x=c;·subst e;simp
 ·have: ¬x.toNat=c.toNat:=fun h=>e (dC.1 h);rw[aO e];simp only[AC,ck,dp];omega
theorem NE (l:List UInt8) (c:UInt8) (hb:l.length≤1000000): ∀(t pre cur:List UInt8) (out:List (List UInt8)),l=pre++(cur++t)→out.length≤pre.length+cur.length→EH N l (AC c) (fun j1=>Option.bind (sub l j1.2 (l.length:Int)) fun x11=>grd (CW (j1.1.length+1) 16) (some (j1.1++[x11]))) t ((pre.length+cur.length:Nat):Int) out (pre.length:Int)=some (out++AE1 cur (Al c t))
 | [],pre,cur,out,h,ho=>by have hl:=a7 List.length h;simp only[aj,an]at hl;rw[EH];dsimp only;rw[Cm l pre.length l.length eT eT,aa,AU (by unfold CW;omega),h,cq];simp[Al,AE1]
 | x::t,pre,cur,out,h,ho=>by
  have hl:=a7 List.length h;simp only[aj,ae]at hl;rw[EH,AB,AT9];by_cases e:x=c
  ·rw[aF e,ah rfl,Cm l pre.length (pre.length+cur.length) eT eT,aa,AU (by unfold CW;omega)];dsimp only;have:=NE l c hb t (pre++cur++[x]) [] (out++[cur]) (by rw[h];simp) (by simp only[aj,ae,an];omega);have e1:(l.drop pre.length).take (pre.length+cur.length-pre.length)=cur:=by rw[h,cq,show pre.length+cur.length-pre.length=cur.length by omega,dg]
   rw[e1,Al,ah e];rw[show(((pre++cur++[x]).length+([]:List UInt8).length:Nat):Int)=((pre.length+cur.length:Nat):Int)+1 by simp only[aj,ae,an];omega,show(((pre++cur++[x]).length:Nat):Int)=((pre.length+cur.length:Nat):Int)+1 by simp only[aj,ae,an];omega]at this;rw[this];cases hs:Al c t with |nil=>exact absurd hs (He c t)|cons p ps=>simp[AE1]
  ·rw[aO e,ag eV,AJi e];dsimp only;have:=NE l c hb t pre (cur++[x]) out (by rw[h];simp) (by simp only[aj,ae,an];omega);rw[show((pre.length+(cur++[x]).length:Nat):Int)=((pre.length+cur.length:Nat):Int)+1 by simp only[aj,ae,an];omega]at this;exact this
theorem Nq (l:List UInt8) (c:UInt8) (hb:l.length≤1000000):GM N l (AC c)=some (Al c l):=by unfold GM;rw[AB,BR eT];have:=NE (N:=N) l c hb l [] [] [] rfl eU;refine this.trans ?_;cases hs:Al c l with |nil=>exact absurd hs (He c l)|cons p ps=>simp[AE1]
end
end Go.VM
namespace Go.VM
theorem Ju (c:UInt8): ∀l:List UInt8,Al c l=if(AP c l).2.2=true then(AP c l).1::Al c (AP c l).2.1 else [(AP c l).1]
 |[]=>by simp[Al,AP]
 | x::t=>by
  have ih:=Ju c t;rw[Al];unfold AP at ih⊢;by_cases e:x=c;·subst e;simp
  ·have e1:(c==x)=false:=by simpa using fun h:c=x=>e h.symm
   have e3:(x !=c)=true:=by simpa using e
   rw[ag e,aX,e1,bd,aP,e3];cases hc:t.contains c;·rw[hc]at ih;simp only[av,aR]at ih⊢;rw[ih]
   ·rw[hc]at ih;simp only[aE]at ih⊢;rw[ih,bV,e3];simp
section
variable{N:Nat}
def AXq (l:List UInt8):Bool:=!l.isEmpty&&l.all Fy
def OX (l:List UInt8):Bool:=(Al 46 l).all Js&&!AXq ((Al 46 l).getLast (He 46 l))
theorem ALS (l:List UInt8):OX l=(Js (AP 46 l).1&&if(AP 46 l).2.2=true then OX (AP 46 l).2.1 else !AXq (AP 46 l).1):=by
 have h:=Ju 46 l;unfold OX;cases hc:(AP 46 l).2.2;·rw[hc]at h;simp only[av,aR]at h⊢;simp[h]
 ·rw[hc]at h;simp only[aE]at h⊢;have: ∀(a:List (List UInt8)) (b:List UInt8) (r:List (List UInt8)) (hr:r≠ []) (ha:a≠ []),a=b::r→a.getLast ha=r.getLast hr:=fun a b r hr ha e=>by subst e;rw[List.getLast_cons hr]
  rw[this _ _ _ (He 46 _) (He 46 l) h];rw[show(Al 46 l).all Js=(Js (AP 46 l).1&&(Al 46 (AP 46 l).2.1).all Js) by rw[h,aG]];rw[Bool.and_assoc]
theorem AC1{c:UInt8}{l:List UInt8} (h:(AP c l).2.2=true):(AP c l).2.1.length<l.length:=by
 unfold AP at h⊢;cases hc:l.contains c;·rw[hc]at h;simp at h
 ·have h1:=Je hc;have h2:(l.takeWhile (· !=c)).length+(l.dropWhile (· !=c)).length=l.length:=by rw[←aj,aU]
  simp only[aE,aw];omega
theorem ATc (c:UInt8) (l:List UInt8):(AP c l).1.length≤l.length:=by
 unfold AP;split;·exact Kq _ l
 ·exact ao _
theorem TL: ∀(k:Nat) (l:List UInt8),l.length<k→l.length≤2^60→Fg N k l=some (OX l)
 |0,l,h,_=>by omega
 | k+1,l,h,hb=>by
  have h1:=ATc 46 l;rw[Fg,Kv 46 l hb,aa,AJd _ eT,aa,ALS l];cases Js (AP 46 l).1;·rfl
  ·rw[ah rfl,bu];cases hc:(AP 46 l).2.2;·rw[ag eV,NY _ eT,aa];rfl
   ·have:=AC1 hc;rw[ah rfl,ah rfl];exact TL k _ eT eT
theorem AMM (l:List UInt8) (hN:l.length<N) (hb:l.length≤2^60):Ni N l=some (OX l):=TL N l hN hb
theorem Tu (k4:Unit→Option Bool): ∀ps:List (List UInt8),(∀p,p∈ps→p.length≤2^60)→El N k4 ps=if ps.all Js=true then k4 ()else some false |[],_=>by rw[El];rfl| p::ps,h=>by rw[El,AKE p (h p eU),aa,Tu k4 ps fun q hq=>h q (by simp[hq]),aG];cases Js p<;>simp
theorem AMa (l:List UInt8) (hb:l.length≤1000000):Kz N l=some (OX l):=by
 have hl:=Ih 46 l;have hp:=Fp 46 l;have hne:=He 46 l;unfold Kz;rw[show(46:Int)=AC 46 from rfl,Nq l 46 hb,aa];dsimp only[AB];rw[BR eT,Tu _ _ fun p h=>by have:=hp p h;omega];have hlast:idx (Al 46 l) (wr .i64 (((Al 46 l).length:Int)-1))=some ((Al 46 l).getLast hne):=by have:0<(Al 46 l).length:=cl.2 hne;rw[show wr .i64 (((Al 46 l).length:Int)-1)=(((Al 46 l).length-1:Nat):Int) by rw[AQ eT];omega,HV,←cS,cc hne]
 have:=hp _ (ed hne);rw[hlast,aa,AGL _ eT,aa];unfold OX;cases (Al 46 l).all Js;·rfl
 ·rfl
def AGM (l:List UInt8):Bool:=decide ((Al 46 l).length=4)&&(Al 46 l).all fun p=>(Ee 255 p).2==0
theorem VO (k4:Unit→Option Bool): ∀ps:List (List UInt8),(∀p,p∈ps→p.length≤2^60)→Dk N k4 ps=if(ps.all fun p=>(Ee 255 p).2==0)=true then k4 ()else some false |[],_=>by rw[Dk];rfl| p::ps,h=>by rw[Dk,show(255:Int)=((255:Nat):Int)from rfl,SV eV eV p (h p eU),aa,VO k4 ps fun q hq=>h q (by simp[hq]),aG];cases hx:((Ee 255 p).2==0)<;>simp[bne,hx]
theorem ATz (l:List UInt8) (hb:l.length≤1000000):Jc N l=some (AGM l):=by
 have hl:=Ih 46 l;have hp:=Fp 46 l;unfold Jc;rw[show(46:Int)=AC 46 from rfl,Nq l 46 hb,aa];dsimp only[AB];rw[BR eT,VO _ _ fun p h=>by have:=hp p h;omega];unfold AGM;have e:(((Al 46 l).length:Int)==4)=decide ((Al 46 l).length=4):=by
  by_cases h:(Al 46 l).length=4;·rw[aF h,h];rfl
  ·rw[aO h];simp;omega
 rw[e];cases ((Al 46 l).all fun p=>(Ee 255 p).2==0)<;>simp
end
end Go.VM
namespace Go.VM
section
variable{N:Nat}
theorem Zt (c:UInt8) (l:List UInt8):strings_Index N l [c]=some (Go.Lib.indexByte l c):=by unfold strings_Index BV;rw[ah (by rfl)];rfl
theorem ML{c:UInt8}{l:List UInt8}:l.count c=0↔l.contains c=false:=by rw[List.count_eq_zero];simp
theorem Qe{c:UInt8}: ∀ {l:List UInt8},l.contains c=true→l.count c=((l.dropWhile (· !=c)).drop 1).count c+1
 |[],h=>by simp at h
 | x::t,h=>by
  by_cases hx:x=c;·subst hx;simp
  ·have hx':(x !=c)=true:=by simpa using hx
   rw[aX,show(c==x)=false by simpa using fun h:c=x=>hx h.symm,bd]at h;rw[bV,ah hx',List.count_cons,show(x==c)=false by simpa using hx,Qe h];simp
theorem FT{c:UInt8}{l:List UInt8} (h:l.contains c=true):AP c l=(l.takeWhile (· !=c),(l.dropWhile (· !=c)).drop 1,true):=by unfold AP;rw[ah h]
theorem Lf{c:UInt8}{l:List UInt8} (h:l.contains c=false):AP c l=(l,[],false):=by unfold AP;rw[ag (by rw[h];decide)]
theorem Zj{c:UInt8}{l:List UInt8} (h:l.contains c=true) (hb:l.length≤1000000):sub l 0 (wr .i64 (Go.Lib.indexByte l c+0))=some (AP c l).1∧sub l (wr .i64 (Go.Lib.indexByte l c+(([c]:List UInt8).length:Int))) (l.length:Int)=some (AP c l).2.1:=by
 have hlt:=Je h;rw[IB];unfold AP;simp only[h,aE];generalize hn:(l.takeWhile (· !=c)).length=n at *;have w:wr .i64 ((n:Int)+(([c]:List UInt8).length:Int))=((n+1:Nat):Int):=by rw[AQ (by simp<;>omega)];simp
 have w0:wr .i64 ((n:Int)+0)=(n:Int):=by rw[AQ eT];omega
 rw[w,w0,show(0:Int)=((0:Nat):Int)from rfl,Cm l 0 n eT eT,Cm l (n+1) l.length eT eT];rw[aT,bA,←hn,Fv,aM eU,←a8,GQ];exact⟨rfl,rfl⟩
theorem ACD{c:UInt8}{a0:List UInt8}{j3:Int}{M:Nat} (k10:List UInt8×Int×List (List UInt8)→Option (List (List UInt8))) (hE:(if(wr .i64 ((a0.length:Int)+1))<j3 then(wr .i64 ((a0.length:Int)+1))else j3)=((M:Nat):Int)) (hM:M≤2000000):∀(k:Nat) (s:List UInt8) (done:List (List UInt8)),s.count c=k→s.length≤1000000→done.length+k+1≤M→∃pre last,pre++[last]=done++Al c s∧pre.length=done.length+k∧Ba N a0 [c] 0 j3 k10 k (done.length:Int) s (done++List.replicate (k+1) [])=k10 (last,((done.length+k:Nat):Int),pre++[[]])
 | 0,s,done,hc,hs,hd=>by
  have h0:=ML.1 hc;refine⟨done,s,?_,rfl,?_⟩;·rw[Ju,Lf h0];rfl
  ·rw[Ba];rfl
 | k+1,s,done,hc,hs,hd=>by
  have h1:s.contains c=true:=by
   cases h:s.contains c;·have:=ML.2 h;omega
   ·rfl
  obtain⟨s1,s2⟩:=Zj h1 hs;have hcb:=Qe h1;have hc1:(AP c s).2.1=(s.dropWhile (· !=c)).drop 1:=by rw[FT h1]
  rw[←hc1]at hcb;have hl:=FE c s;obtain⟨pre,last,p1,p2,p3⟩:=ACD (c:=c) k10 hE hM k (AP c s).2.1 (done++[(AP c s).1]) eT eT eW;refine⟨pre,last,?_,by rw[p2];simp;omega,?_⟩;·rw[p1,Ju c s,ah (by rw[FT h1])];simp
  ·rw[Ba,Zt,aa,ag (by rw[IB,ah h1];simp),s1,aa,hE,AU (by constructor<;>omega),AU eU,s2,aa];have e1:(done++List.replicate (k+1+1) ([]:List UInt8)).set (done.length:Int).toNat (AP c s).1=(done++[(AP c s).1])++List.replicate (k+1) []:=by rw[bl,dq _ _ (ao _),cQ,bW,bv];simp
   rw[e1];have e2:(done.length:Int)+1=(((done++[(AP c s).1]).length:Nat):Int):=eU;rw[e2,p3];congr 2;simp;omega
theorem ALW (l:List UInt8) (c:UInt8) (hb:l.length≤1000000):strings_Split N l [c]=some (Al c l):=by
 have hcl:l.count c≤l.length:=List.count_le_length;have hcnt:strings_Count N l [c]=some ((l.count c:Nat):Int):=by unfold strings_Count;rw[ag (by exact cp),ah (by rfl),show idx [c] 0=some c from rfl,aa,Kh];rfl
 unfold strings_Split strings_genSplit;dsimp only[AB];rw[ag eV,ag eU,ah eV,hcnt,aa];have w1:wr .i64 (((l.count c:Nat):Int)+1)=((l.count c+1:Nat):Int):=by rw[AQ eT];simp
 have w2:wr .i64 ((l.length:Int)+1)=((l.length+1:Nat):Int):=by rw[AQ eT];simp
 rw[w1];have hE:(if(wr .i64 ((l.length:Int)+1))<((l.count c+1:Nat):Int)then(wr .i64 ((l.length:Int)+1))else((l.count c+1:Nat):Int))=((l.count c+1:Nat):Int):=by rw[w2,ag eT]
 obtain⟨pre,last,p1,p2,p3⟩:=ACD (N:=N) (c:=c) (a0:=l) (j3:=((l.count c+1:Nat):Int)) (M:=l.count c+1) (fun j9:(List UInt8)×Int×(List (List UInt8))=>grd (0≤j9.2.1∧j9.2.1<((if(wr .i64 ((l.length:Int)+1))<((l.count c+1:Nat):Int)then(wr .i64 ((l.length:Int)+1))else((l.count c+1:Nat):Int)).toNat:Int)) (grd (j9.2.1.toNat+1≤j9.2.2.length) (grd (0≤(wr .i64 (j9.2.1+1))∧(wr .i64 (j9.2.1+1))≤((if(wr .i64 ((l.length:Int)+1))<((l.count c+1:Nat):Int)then(wr .i64 ((l.length:Int)+1))else((l.count c+1:Nat):Int)).toNat:Int)) (grd ((wr .i64 (j9.2.1+1)).toNat≤j9.2.2.length) (some (List.take ((wr .i64 (j9.2.1+1)).toNat) (j9.2.2.set j9.2.1.toNat j9.1))))))) hE eT (l.count c) l [] rfl hb eU;have w3:(wr .i64 (((l.count c+1:Nat):Int)-1)-0).toNat=l.count c:=by rw[AQ eT];omega
 rw[hE]at p3⊢;rw[AU (by unfold Pz;omega),AU (by rw[AQ eT];omega),w3];simp only[bl]at p3⊢;simp only[ba,an,bp]at p1 p2 p3;rw[show((0:Nat):Int)=0 from rfl]at p3;rw[p3];have w4:wr .i64 (((l.count c:Nat):Int)+1)=((pre.length+1:Nat):Int):=by rw[AQ eT,p2];simp
 rw[w4];simp only[bl];rw[AU eT,AU eW,AU eT,AU eU,aa];rw[←p2,dq _ _ (ao _),cQ,bv,aM eU,p1]
end
end Go.VM
namespace Go.VM
section
variable{N:Nat}
section
variable{l t:List UInt8}{i p:Nat}
end
end
end Go.VM
namespace Go.VM
section
variable{N:Nat}
section
variable{l:List UInt8}
end
theorem Ib: ∀l:List UInt8,List.map FZ (List.map AC l)=l |[]=>rfl|c::l=>by rw[aK,aK,Kh,Ib l]
end
end Go.VM
