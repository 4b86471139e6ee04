import Derived.Test.YtjgdhjpafjpjgaaGreatDoorVM2
import GoSem.Claim
import Derived.Test.YtjgdhjpafjpjgaaGreatDoorDefs
import Derived.KernelRfl
set_option linter.unusedVariables false
set_option linter.unusedSimpArgs false
namespace Go.VM
theorem AR{n:Int} (h: -9223372036854775808≤n∧n≤9223372036854775807):wr .i64 n=n:=by
  simp[wr,IntKind.wrap,IntKind.bits,IntKind.signed];omega
theorem IC{α:Type} (l:List α) (n:Nat):idx l (n:Int)=l[n]?:=by simp[idx]
theorem YV{α:Type} (pre suf:List α) (x:α):idx (pre++x::suf) (pre.length:Int)=some x:=by simp[idx]
theorem AIM{α:Type}{l pre suf:List α}{x:α} (h:l=pre++x::suf):idx l (pre.length:Int)=some x:=by rw[h];exact YV ..
theorem ASN{α:Type}{l pre suf:List α}{x:α} (h:l=pre++x::suf):decide ((pre.length:Int)<(l.length:Int))=true:=by
  subst h;simp only[decide_eq_true_eq,List.length_append,List.length_cons];omega
theorem OI{α:Type} (pre:List α) (x:α):(pre.length:Int)+1=((pre++[x]).length:Int):=by simp
theorem DI{α:Type} (l:List α) (a b:Nat) (h1:a≤b) (h2:b≤l.length):sub l (a:Int) (b:Int)=some ((l.drop a).take (b-a)):=by
  have h1':(a:Int)≤b:=by omega
  have h2':(b:Int)≤l.length:=by omega
  simp[sub,h1',h2']
theorem AV{α:Type}{c:Prop} [Decidable c]{x:Option α} (h:c):grd c x=x:=by simp[grd,h]
theorem Po{n b:Nat} (h:n≤1000000) (hb:b≤100000):Cg n b:=by
  unfold Cg
  have:n * b≤1000000 * 100000:=Nat.mul_le_mul h hb
  omega
theorem Be{α:Type}{n:Nat}{x:Option α} (h:n≤4611686018427387904):grd (AO n) x=x:=AV h
theorem AB{α β:Type} (k:α→Option β) (body:(α→Option β)→Option β){d:JD α}:AA k body d=body k:=rfl
end Go.VM
namespace Go.VM
theorem Ig (c:UInt8):AJ c=(c.toNat:Int):=rfl
theorem JA (c:UInt8):Fx (AJ c)=c:=by simp[Fx,AJ]
theorem toNat_ofNat{n:Nat} (h:n<256):(UInt8.ofNat n).toNat=n:=by simp;omega
theorem AMg{P:Nat→Prop} [∀n,Decidable (P n)] (h:(List.range 256).all (fun n=>decide (P n))=true) (c:UInt8):P c.toNat:=by
  have:=List.all_eq_true.1 h c.toNat (List.mem_range.2 c.toNat_lt)
  simpa using this
theorem WG{n:Int} (h:0≤n∧n<256):wr .u8 n=n:=by
  simp[wr,IntKind.wrap,IntKind.bits,IntKind.signed];omega
theorem JZ{n:Int} (h:0≤n∧n<18446744073709551616):wr .u64 n=n:=by
  simp[wr,IntKind.wrap,IntKind.bits,IntKind.signed];omega
theorem AIr{n:Nat}:wr .u8 (n:Int)=((n % 256:Nat):Int):=by
  simp[wr,IntKind.wrap,IntKind.bits,IntKind.signed]
theorem AI7:(List.range 256).all (fun n=>decide (
    Lc .u8 (n:Int) 127=((n / 128 * 128:Nat):Int)∧Lc .u8 (n:Int) 31=((n / 32 * 32:Nat):Int)∧Lc .u8 (n:Int) 15=((n / 16 * 16:Nat):Int)∧Lc .u8 (n:Int) 7=((n / 8 * 8:Nat):Int)∧
    Jq .u8 (n:Int) 127=((n % 128:Nat):Int)∧Jq .u8 (n:Int) 31=((n % 32:Nat):Int)∧Jq .u8 (n:Int) 15=((n % 16:Nat):Int)∧Jq .u8 (n:Int) 7=((n % 8:Nat):Int)∧
    Jq .u8 (n:Int) 192=((n / 64 * 64:Nat):Int)∧Jq .u8 (n:Int) 63=((n % 64:Nat):Int)))=true:=by decide+kernel
theorem AJU (c:UInt8):Lc .u8 (AJ c) 15=((c.toNat / 16 * 16:Nat):Int):=(AMg AI7 c).2.2.1
end Go.VM
namespace Go.VM
section
variable{N:Nat}
end
end Go.VM
namespace Go.VM
def Ok{α:Type} (x:Option α) (P:α→Prop):Prop:= ∃a,x=some a∧P a
section
variable{α β:Type}{P:α→Prop}{Q:β→Prop}
theorem Ok.ret{a:α} (h:P a):Ok (some a) P:=⟨a,rfl,h⟩
theorem Ok.bind{x:Option β}{f:β→Option α} (h:Ok x Q) (k: ∀b,Q b→Ok (f b) P):Ok (Option.bind x f) P:=by
  obtain⟨b,rfl,hb⟩:=h;exact k b hb
theorem Ok.ite{c:Bool}{x y:Option α} (h1:c=true→Ok x P) (h2:c=false→Ok y P):Ok (if c=true then x else y) P:=by
  cases c
  · simpa using h2 rfl
  · simpa using h1 rfl
theorem Ok.grd{c:Prop} [Decidable c]{x:Option α} (hc:c) (h:Ok x P):Ok (grd c x) P:=by rw[AV hc];exact h
theorem Ok.join{k:β→Option α}{body:(β→Option α)→Option α}{d:JD β} (hb:Ok (body k) P):Ok (AA k body d) P:=hb
theorem Ok.meet (J:β→Prop){k:β→Option α}{body:(β→Option α)→Option α}{d:JD β} (hk: ∀b,J b→Ok (k b) P) (hb: ∀k':β→Option α,(∀b,J b→Ok (k' b) P)→Ok (body k') P):Ok (AA k body d) P:=hb k hk
theorem Ok.letL{x:β}{f:β→Option α} (h:Ok (f x) P):Ok (letL x f) P:=h
theorem Ok.mono{x:Option α}{P':α→Prop} (h:Ok x P) (k: ∀a,P a→P' a):Ok x P':=by obtain⟨a,e,ha⟩:=h;exact⟨a,e,k a ha⟩
theorem Ok.eq{x:Option α}{a:α} (h:x=some a):Ok x (· =a):=⟨a,h,rfl⟩
theorem Ok.idx{l:List α}{i:Int} (h0:0≤i) (h1:i<l.length):Ok (idx l i) (fun x=>l[i.toNat]?=some x):=by
  have:i.toNat<l.length:=by omega
  exact⟨l[i.toNat],by simp[VM.idx,h0,List.getElem?_eq_getElem this],List.getElem?_eq_getElem this⟩
theorem Ok.sub{l:List α}{a b:Int} (h0:0≤a) (h1:a≤b) (h2:b≤l.length):Ok (sub l a b) (fun x=>x=(l.drop a.toNat).take (b.toNat-a.toNat)∧x.length=(b-a).toNat):=by
  refine⟨_,by simp[VM.sub,h0,h1,h2],rfl,?_⟩
  simp;omega
end
end Go.VM
namespace Go.VM
section
variable{N:Nat}
theorem Jb{α:Type}{l t:List α}{x:α}{i j:Nat} (h:l.drop i=t) (hx:t[j]?=some x):idx l ((i+j:Nat):Int)=some x:=by
  rw[IC,←List.getElem?_drop,h,hx]
theorem Ii{α:Type}{l t:List α}{i:Nat} (h:l.drop i=t) (hi:i≤l.length):l.length=i+t.length:=by
  have:=congrArg List.length h
  simp at this;omega
section
variable{l t:List UInt8}{i:Nat}{k13:Int→Option (Int×Int×Int)}
end
end
end Go.VM
namespace Go.VM
section
variable{N:Nat}
end
end Go.VM
namespace Go.VM
section
variable{N:Nat}
theorem DV{α:Type} [DecidableEq α]{f g:Nat→α} (h:(List.range 256).all (fun n=>decide (f n=g n))=true) (c:UInt8):f c.toNat=g c.toNat:=by
  have:=List.all_eq_true.1 h c.toNat (List.mem_range.2 c.toNat_lt)
  simpa using this
def QY (n:Nat):Bool:=(decide (48≤n)&&decide (n≤57))||(decide (65≤n)&&decide (n≤70))||(decide (97≤n)&&decide (n≤102))
def Kw (c:UInt8):Bool:=QY c.toNat
def Ib (n:Nat):Nat:=if n≤57 then n-48 else if n≤70 then n-55 else n-87
theorem TP (c:UInt8) (h:Kw c=true):Ib c.toNat<16:=by
  simp only[Kw,QY,Bool.or_eq_true,Bool.and_eq_true,decide_eq_true_eq]at h
  unfold Ib;split<;>(try split)<;>omega
theorem AJk (c:UInt8):JF N (AJ c)=some (Kw c):=
  DV (f:=fun n=>JF N (n:Int)) (g:=fun n=>some (QY n)) (by kernel_rfl) c
theorem AKM (c:UInt8):FT N (AJ c)=some (Kw c):=
  DV (f:=fun n=>FT N (n:Int)) (g:=fun n=>some (QY n)) (by kernel_rfl) c
theorem AVF (c:UInt8) (h:Kw c=true):Jh N (AJ c)=some ((Ib c.toNat:Nat):Int):=by
  have:=DV (f:=fun n=>if QY n=true then Jh N (n:Int)else none) (g:=fun n=>if QY n=true then some ((Ib n:Nat):Int)else none) (by kernel_rfl) c
  simp only[show QY c.toNat=true from h,if_true]at this
  exact this
end
end Go.VM
namespace Go.VM
section
variable{N:Nat}
end
end Go.VM
namespace Go.VM
section
variable{N:Nat}
section
variable{l:List UInt8}
end
end
end Go.VM
namespace Go.VM
section
variable{N:Nat}
theorem F6{α:Type} (p:α→Bool) (t:List α):t.take (t.takeWhile p).length=t.takeWhile p:=
  (List.prefix_iff_eq_take.1 (List.takeWhile_prefix p)).symm
theorem LB{α:Type} (p:α→Bool) (t:List α):(t.takeWhile p).length≤t.length:=(List.takeWhile_sublist p).length_le
def F9 (c:UInt8):Bool:=decide (48≤c.toNat)&&decide (c.toNat≤57)
def ACH (n:Nat):Bool:=(decide (65≤n)&&decide (n≤90))||(decide (97≤n)&&decide (n≤122))
def IU (c:UInt8):Bool:=ACH c.toNat
theorem P6 (c:UInt8):Cu N (AJ c)=some (F9 c):=
  DV (f:=fun n=>Cu N (n:Int)) (g:=fun n=>some (decide (48≤n)&&decide (n≤57))) (by kernel_rfl) c
theorem OY (c:UInt8):BV N (AJ c)=some (F9 c):=
  DV (f:=fun n=>BV N (n:Int)) (g:=fun n=>some (decide (48≤n)&&decide (n≤57))) (by kernel_rfl) c
theorem OX (c:UInt8):F7 N (AJ c)=some (IU c):=
  DV (f:=fun n=>F7 N (n:Int)) (g:=fun n=>some (ACH n)) (by kernel_rfl) c
theorem OU (c:UInt8):Dn N (AJ c)=some (IU c):=
  DV (f:=fun n=>Dn N (n:Int)) (g:=fun n=>some (ACH n)) (by kernel_rfl) c
theorem ADG (c:UInt8) (k2:Unit→Option Bool) (h:k2 ()=some false): ∀l:List UInt8,Ef N (AJ c) k2 l=some (l.contains c)
  |[]=>by rw[Ef];simpa using h
  | x::l=>by
    rw[Ef,ADG c k2 h l,List.contains_cons]
    by_cases e:x=c
    · subst e;simp
    · have e1: ¬c=x:=fun h=>e h.symm
      have:(AJ x==AJ c)=false:=by
        have: ¬x.toNat=c.toNat:=fun h=>e (UInt8.toNat_inj.1 h)
        simp only[AJ,beq_eq_false_iff_ne,ne_eq];omega
      simp[this,e1]
theorem Uw (c:UInt8) (l:List UInt8) (h:l.length≤1000):E8 N (AJ c) l=some (l.contains c):=by
  unfold E8
  rw[AB,Be (by omega)]
  exact ADG c _ rfl l
theorem JE (l:List UInt8) (c:UInt8):strings_IndexByte N l (AJ c)=some (Go.Lib.indexByte l c):=by
  unfold strings_IndexByte Am;rw[JA];rfl
section
variable{l:List UInt8}
variable{t:List UInt8}{i:Nat}
end
end
end Go.VM
namespace Go.VM
section
variable{N:Nat}
theorem Bo{α β:Type}{K:α→Option β}{body:(α→Option β)→Option β}{a:α}{d:JD α} (h: ∀k:α→Option β,body k=k a):AA K body d=K a:=h K
end
end Go.VM
namespace Go.VM
section
variable{N:Nat}
theorem Ic: ∀(l:List UInt8) (c:UInt8),Go.Lib.indexByte l c=if l.contains c=true then(((l.takeWhile (· !=c)).length:Nat):Int)else-1
  |[],c=>rfl
  | x::l,c=>by
    have ih:=Ic l c
    rw[Go.Lib.indexByte,List.contains_cons]
    by_cases e:x=c
    · subst e;simp
    · have e1:(c==x)=false:=by simpa using fun h:c=x=>e h.symm
      have e2:(x==c)=false:=by simpa using e
      have e3:(x !=c)=true:=by simpa using e
      rw[e1,e2,Bool.false_or,List.takeWhile_cons,e3]
      simp only[Bool.false_eq_true,if_false,if_true,List.length_cons]
      by_cases k:l.contains c=true
      · rw[if_pos k]at ih
        rw[if_pos k,ih]
        have:(((((l.takeWhile (· !=c)).length:Nat):Int))== -1)=false:=by
          simp only[beq_eq_false_iff_ne,ne_eq];omega
        rw[this];simp
      · rw[if_neg k]at ih
        rw[if_neg k,ih];rfl
theorem Gg{α:Type} (p:α→Bool) (l:List α):l.drop (l.takeWhile p).length=l.dropWhile p:=by
  have:=List.takeWhile_append_dropWhile (p:=p) (l:=l)
  conv=>lhs;rw[←this]
  rw[List.drop_append,List.drop_of_length_le (by rw[this];exact Nat.le_refl _),this]
  simp
def AQ (c:UInt8) (l:List UInt8):List UInt8×List UInt8×Bool:=if l.contains c=true then(l.takeWhile (· !=c),(l.dropWhile (· !=c)).drop 1,true)else(l,[],false)
theorem JV{c:UInt8}: ∀ {l:List UInt8},l.contains c=true→(l.takeWhile (· !=c)).length<l.length
  |[],h=>by cases h
  | x::l,h=>by
    rw[List.takeWhile_cons]
    by_cases e:x=c
    · subst e;simp
    · have e3:(x !=c)=true:=by simpa using e
      rw[List.contains_cons]at h
      have e1:(c==x)=false:=by simpa using fun h:c=x=>e h.symm
      rw[e1,Bool.false_or]at h
      rw[e3]
      have:=JV h
      simp only[if_true,List.length_cons];omega
theorem LZ (c:UInt8) (l:List UInt8) (hb:l.length≤2^60):strings_Cut N l [c]=some (AQ c l):=by
  unfold strings_Cut Ey CS AQ
  have hk: ∀k:Bool→Option Int,(if((([c]:List UInt8).length:Int)==0)=true then k true else k ([c]==l))=k ([c]==l):=fun k=>rfl
  have hI: ∀d:JD Bool,(AA (fun j1:Bool=>if j1=true then some (0:Int)else if((([c]:List UInt8).length:Int)==1)=true then Option.bind (idx [c] 0) fun x5=>Option.bind (Am N l (AJ x5)) fun y6=>some y6 else if decide ((([c]:List UInt8).length:Int)≥(l.length:Int))=true then some (-1)else none) (fun k2=>if((([c]:List UInt8).length:Int)==0)=true then k2 true else k2 ([c]==l)) d)=some (Go.Lib.indexByte l c):=by
    intro d
    refine(Bo (a:=[c]==l) fun k=>rfl).trans ?_
    by_cases h:([c]==l)=true
    · have:l=[c]:=by have:=beq_iff_eq.1 h;exact this.symm
      subst this
      simp[Go.Lib.indexByte]
    · rw[if_neg h,if_pos (by rfl),show idx [c] 0=some c from rfl,Option.bind_some]
      unfold Am
      rw[JA];rfl
  rw[hI,Option.bind_some,Ic]
  by_cases h:l.contains c=true
  · have hlt:=JV h
    simp only[h,if_true]
    generalize hn:(l.takeWhile (· !=c)).length=n at *
    have w:wr .i64 ((n:Int)+(([c]:List UInt8).length:Int))=((n+1:Nat):Int):=by rw[AR (by simp<;>omega)];simp
    rw[if_pos (by simp),show(0:Int)=((0:Nat):Int)from rfl,DI l 0 n (by omega) (by omega),Option.bind_some,w,DI l (n+1) l.length (by omega) (by omega),Option.bind_some,Option.bind_some]
    rw[List.drop_zero,Nat.sub_zero,←hn,F6,List.take_of_length_le (by simp),←List.drop_drop,Gg]
  · rw[if_neg h,if_neg h,if_neg (by decide),Option.bind_some]
theorem FP (c:UInt8) (l:List UInt8):(AQ c l).1.length≤l.length∧(AQ c l).2.1.length≤l.length:=by
  unfold AQ
  split
  · refine⟨LB _ _,?_⟩
    have:=(List.dropWhile_sublist (fun x=>x !=c) (l:=l)).length_le
    simp only[List.length_drop];omega
  · simp
def AEj (as:List Bool) (set:List UInt8):Prop:=as.length=256∧ ∀c:UInt8,as[c.toNat]?=some (set.contains c)
theorem AFL (k2:List Bool→Option (List Bool×Bool)) (done:List UInt8): ∀(l:List UInt8) (done:List UInt8) (bn:List Bool),(∀c∈l,c.toNat<128)→AEj bn done→ ∃as,BQ N k2 l bn=k2 as∧AEj as (done++l)
  |[],done,bn,hl,hs=>⟨bn,by rw[BQ],by simpa using hs⟩
  | x::l,done,bn,hl,hs=>by
    have hx:=hl x (by simp)
    have c1: ¬AJ x≥128:=by simp only[AJ];omega
    obtain⟨as,h1,h2⟩:=AFL k2 done l (done++[x]) (bn.set x.toNat true) (fun c hc=>hl c (by simp[hc])) ⟨by simp[hs.1],fun c=>by
      rw[List.getElem?_set]
      by_cases e:x.toNat=c.toNat
      · have:x=c:=UInt8.toNat_inj.1 e
        subst this
        rw[if_pos rfl,if_pos (by rw[hs.1];exact x.toNat_lt)]
        simp
      · rw[if_neg e,hs.2 c]
        have: ¬c=x:=fun h=>e (by rw[h])
        simp[this]⟩
    refine⟨as,?_,by simpa using h2⟩
    rw[BQ,if_neg (by simpa using c1),AV (by simp only[AJ];omega),AV (by rw[hs.1];simp only[AJ,Int.toNat_natCast];omega)]
    exact h1
theorem AQA (set:List UInt8) (hl: ∀c∈set,c.toNat<128) (hb:set.length≤1000): ∃as,strings_makeASCIISet N set=some (as,true)∧AEj as set:=by
  unfold strings_makeASCIISet
  rw[AB,AV (by unfold AO;omega)]
  obtain⟨as,h1,h2⟩:=AFL (N:=N) (fun j1=>grd (j1.length=256) (some (j1,true))) [] set [] (AHQ 256) hl ⟨Ul,fun c=>by
    have:=c.toNat_lt
    rw[AHQ,List.getElem?_replicate,if_pos (by omega)];rfl⟩
  exact⟨as,by rw[h1,AV h2.1],h2⟩
theorem AEJ{as:List Bool}{set:List UInt8} (h:AEj as set) (c:UInt8):Dh N as (AJ c)=some (set.contains c,as):=by
  have:=c.toNat_lt
  unfold Dh
  rw[AV (by simp only[AJ];omega),Ig,IC,h.2 c];rfl
def ATC (n:Nat):Nat:=if 65≤n∧n≤90 then n+32 else n
def FK (c:UInt8):UInt8:=UInt8.ofNat (ATC c.toNat)
theorem AFB (l:List UInt8) (hb:l.length≤2^60) (k2:List Int→Option (List UInt8)): ∀(t pre:List UInt8),l=pre++t→EP N l k2 t (pre.length:Int) (List.map AJ (pre.map FK)++List.map AJ t)=k2 (List.map AJ (l.map FK))
  |[],pre,h=>by rw[EP,h];simp
  | c::t,pre,h=>by
    have hlen:pre.length<l.length:=by rw[h];simp
    have hc:=c.toNat_lt
    rw[EP]
    refine(Bo (a:=List.map AJ (pre.map FK)++(AJ (FK c)::List.map AJ t)) fun k7=>?_).trans ?_
    · rw [AV (by omega),List.map_cons]
      have hi:idx (List.map AJ (pre.map FK)++AJ c::List.map AJ t) (pre.length:Int)=some (AJ c):=by
        have:=YV (List.map AJ (pre.map FK)) (List.map AJ t) (AJ c)
        simpa using this
      rw[hi,Option.bind_some]
      refine(Bo (a:=decide (65≤c.toNat∧c.toNat≤90)) fun k12=>?_).trans ?_
      · by_cases h1:65≤c.toNat
        · have:(65:Int)≤AJ c:=by simp only[AJ];omega
          rw[if_pos (decide_eq_true this)]
          congr 1
          simp only[AJ,h1,true_and]
          congr 1;simp only[eq_iff_iff];omega
        · have: ¬(65:Int)≤AJ c:=by simp only[AJ];omega
          rw[if_neg (by simpa using this),decide_eq_false (fun h=>h1 h.1)]
      try dsimp only
      by_cases h1:65≤c.toNat∧c.toNat≤90
      · rw[if_pos (decide_eq_true h1),AV (by simp<;>omega)]
        have e:FK c=UInt8.ofNat (c.toNat+32):=by unfold FK ATC;rw[if_pos h1]
        have e2:AJ (FK c)=wr .u8 (AJ c+32):=by
          rw[e,WG (by simp only[AJ];omega)]
          simp only[AJ]
          rw[toNat_ofNat (by omega)];simp
        rw[←e2]
        congr 1
        simp
      · rw[if_neg (by simpa using h1)]
        have e:FK c=c:=by unfold FK ATC;rw[if_neg h1];simp
        rw[e]
    · try dsimp only
      have:=AFB l hb k2 t (pre++[c]) (by rw[h];simp)
      rw[←OI]at this
      rw[←this]
      simp
theorem lower_eq (l:List UInt8) (hb:l.length≤2^60):Hm N l=some (l.map FK):=by
  unfold Hm
  rw[AB,AV (by unfold AO;omega)]
  have:=AFB (N:=N) l hb (fun j1=>grd (l.length≤j1.length∧AO l.length) (some (List.map Fx (List.take l.length j1)))) l [] rfl
  simp only[List.map_nil,List.nil_append,List.length_nil]at this
  rw[show(0:Int)=((0:Nat):Int)from rfl,this,AV (by unfold AO;simp;omega),List.take_of_length_le (by simp)]
  congr 1
  induction l with
  |nil=>rfl
  |cons c l ih=>simp[JA]
end
end Go.VM
namespace Go.VM
section
variable{N:Nat}
theorem Sa: ∀l:List UInt8,List.map Fx (List.map AJ l)=l
  |[]=>rfl
  |c::l=>by rw[List.map_cons,List.map_cons,JA,Sa l]
def AAr:Nat→Nat→List UInt8→List UInt8
  |0,_,acc=>acc
  |k+1,n,acc=>if n / 10=0 then UInt8.ofNat (48+n % 10)::acc else AAr k (n / 10) (UInt8.ofNat (48+n % 10)::acc)
def fmtS (n:Nat):List UInt8:=AAr 20 n []
theorem AC9: ∀(k n:Nat) (acc:List UInt8),(AAr k n acc).length≤acc.length+k
  |0,n,acc=>by simp[AAr]
  | k+1,n,acc=>by
    rw[AAr]
    split
    · simp<;>omega
    · have:=AC9 k (n / 10) (UInt8.ofNat (48+n % 10)::acc)
      simp only[List.length_cons]at this;omega
theorem T9 (n:Nat):(fmtS n).length≤20:=by have:=AC9 20 n [];simpa[fmtS]using this
theorem AYy (n:Nat):wr .u64 ((n:Int).tdiv 10)=if n<2^64 then((n / 10:Nat):Int)else wr .u64 ((n:Int).tdiv 10):=by
  split
  · rw[Int.tdiv_eq_ediv_of_nonneg (by omega),JZ (by omega)];simp
  · rfl
theorem AXl{n:Nat} (h:n<2^64):wr .u64 ((n:Int).tdiv 10)=((n / 10:Nat):Int):=by rw[AYy,if_pos h]
theorem AXg{n:Nat}:wr .u64 (48+(n:Int).tmod 10)=((48+n % 10:Nat):Int):=by
  rw[Int.tmod_eq_emod_of_nonneg (by omega),JZ (by omega)];simp
theorem Qu: ∀(k n:Nat) (acc:List UInt8),n<10^k→n<2^64→acc.length+k≤1000→ ∀m,k≤m→0<k→DW N m (n:Int) acc=some (AAr k n acc)
  |0,n,acc,h,h2,ha,m,hm,hk=>by omega
  | k+1,n,acc,h,h2,ha,m+1,hm,hk=>by
    rw[DW,AXl h2,AXg,AAr]
    rw[AV (by unfold AO;simp<;>omega)]
    have e:(List.map Fx [wr .u8 ((48+n % 10:Nat):Int)]++acc)=UInt8.ofNat (48+n % 10)::acc:=by
      rw[AIr,Nat.mod_eq_of_lt (show 48+n % 10<256 by omega)];rfl
    rw[e]
    by_cases c:n / 10=0
    · rw[if_pos (by rw[c];rfl),if_pos c]
    · have c': ¬((((n / 10:Nat):Int))==0)=true:=by simp<;>omega
      rw[if_neg c',if_neg c]
      have hk2:0<k:=by
        cases k with
        |zero=>simp at h;omega
        |succ=>omega
      exact Qu k (n / 10) _ (by rw[Nat.pow_succ]at h;omega) (by omega) (by simp<;>omega) m (by omega) hk2
theorem AJX (n:Nat) (h:n<2^64) (hN:20≤N):Ew N (n:Int)=some (fmtS n):=by
  unfold Ew fmtS
  exact Qu 20 n [] (by omega) h (by simp) N hN (by omega)
theorem AFt (a:Nat) (x:Int) (acc:List Int):(List.replicate (a+1) 0++acc).set a x=List.replicate a 0++x::acc:=by
  rw[List.replicate_succ',List.append_assoc]
  simp
theorem Qp (k2:Int×Int×List Int→Option (List UInt8)) (R:List UInt8→Option (List UInt8)) (hk: ∀(n a:Nat) (acc:List UInt8),n<10→a≤19→acc.length+a=19→k2 ((n:Int),(a:Int),List.replicate (a+1) 0++acc.map AJ)=R (UInt8.ofNat (48+n)::acc)):
    ∀(j n a:Nat) (acc:List UInt8),n<10^(j+1)→n<2^64→j≤a→a≤19→acc.length+a=19→ ∀m,j<m→EJ N k2 m (n:Int) (a:Int) (List.replicate (a+1) 0++acc.map AJ)=R (AAr (j+1) n acc)
  |j,n,a,acc,h,h2,hj,ha,hl,0,hm=>by omega
  | j,n,a,acc,h,h2,hj,ha,hl,m+1,hm=>by
    rw[EJ,AAr]
    by_cases c:n / 10=0
    · have c': ¬(n:Int)≥10:=by omega
      rw[if_neg (by simpa using c'),if_pos c,Nat.mod_eq_of_lt (by omega)]
      exact hk n a acc (by omega) ha hl
    · have c':(n:Int)≥10:=by omega
      rw[if_pos (decide_eq_true c'),if_neg c]
      obtain⟨j,rfl⟩: ∃i,j=i+1:=⟨j-1,by
        cases j with
        |zero=>simp at h;omega
        |succ=>omega⟩
      obtain⟨a,rfl⟩: ∃i,a=i+1:=⟨a-1,by omega⟩
      rw[AV (by omega),AV (by simp<;>omega),AXl h2,AXg,AIr,Nat.mod_eq_of_lt (show 48+n % 10<256 by omega),AR (by omega)]
      rw[show((a+1:Nat):Int)-1=(a:Int) by simp,Int.toNat_natCast,AFt]
      have e:List.replicate (a+1) 0++((48+n % 10:Nat):Int)::List.map AJ acc=List.replicate (a+1) 0++List.map AJ (UInt8.ofNat (48+n % 10)::acc):=by
        rw[List.map_cons,Ig,toNat_ofNat (by omega)]
      rw[e]
      exact Qp k2 R hk j (n / 10) a _ (by rw[Nat.pow_succ]at h;omega) (by omega) (by omega) (by omega) (by simp<;>omega) m (by omega)
theorem AHg (n:Nat) (h:n<2^64) (hN:20≤N):Gv N (n:Int)=some (fmtS n):=by
  unfold Gv fmtS
  rw[AB]
  refine Qp (N:=N) _ some (fun n a acc hn ha hl=>?_) 19 n 19 [] (by omega) h (by omega) (by omega) rfl N (by omega)
  have w:wr .u8 (wr .u64 (48+(n:Int)))=((48+n:Nat):Int):=by
    rw[JZ (by omega),show(48:Int)+(n:Int)=((48+n:Nat):Int) by simp,AIr,Nat.mod_eq_of_lt (by omega)]
  simp only[Int.toNat_natCast,w]
  rw[AFt]
  rw[AV (by omega),AV (by simp<;>omega),AV (by omega),AV (by unfold AO;simp<;>omega)]
  congr 1
  rw[List.drop_append,List.drop_of_length_le (by simp),List.length_replicate,Nat.sub_self,List.drop_zero,List.nil_append,List.take_of_length_le (by simp<;>omega),List.map_cons,Sa]
  rfl
end
end Go.VM
namespace Go.VM
structure NumP (s sg W F FR P EX:List UInt8):Prop where
  eq:s=sg++(W++(FR++EX))
  sg:sg=[]∨sg=[45]
  Wd:W.all F9=true
  Wn:W≠ []
  fr:(FR=[]∧F=[])∨FR=46::F
  Fd:F.all F9=true
  ex:(EX=[]∧P=[])∨EX=101::P∨EX=69::P
  pw:P=[]∨ ∃sn D,P=sn++D∧(sn=[]∨sn=[43]∨sn=[45])∧D≠ []∧D.all F9=true
end Go.VM
namespace Go.VM
section
variable{N:Nat}
def IR:Nat→List UInt8→Nat
  |n,[]=>n
  |n,c::l=>IR (n * 10+Ib c.toNat) l
theorem UH: ∀(l:List UInt8) (n:Nat),n≤IR n l
  |[],n=>by rw[IR];exact Nat.le_refl _
  | c::l,n=>by
    have:=UH l (n * 10+Ib c.toNat)
    rw[IR];omega
theorem Yl{c:UInt8} (h:F9 c=true):48≤c.toNat∧c.toNat≤57:=by
  simpa[F9]using h
theorem TM{c:UInt8} (h:F9 c=true):Kw c=true∧Ib c.toNat=c.toNat-48:=by
  have:=Yl h
  refine⟨?_,?_⟩
  · simp only[Kw,QY,Bool.or_eq_true,Bool.and_eq_true,decide_eq_true_eq];omega
  · unfold Ib;rw[if_pos this.2]
theorem AXf (k2:Unit→Option (Int×Int)): ∀l:List UInt8,Al N k2 l=if l.all F9=true then k2 ()else some (0,1)
  |[]=>by rw[Al];rfl
  | c::l=>by
    rw[Al,P6,Option.bind_some,AXf k2 l]
    cases h:F9 c<;>simp[h]
theorem AXq{m:Nat} (hm:m≤2^59) (k9:Int→Option (Int×Int)): ∀(l:List UInt8) (n:Nat),l.all F9=true→n≤m→Ak N 10 (m:Int) k9 l (n:Int)=if IR n l≤m then k9 ((IR n l:Nat):Int)else some (0,4)
  |[],n,_,hn=>by rw[Ak,IR,if_pos hn]
  | c::l,n,h,hn=>by
    simp only[List.all_cons,Bool.and_eq_true]at h
    have hd:Ib c.toNat≤9:=by have:=Yl h.1;rw[(TM h.1).2];omega
    obtain⟨hx,hv⟩:=TM h.1
    rw[Ak,AVF c hx,Option.bind_some,AB,AV (by decide)]
    have w1:wr .u64 ((n:Int) * 10)=((n * 10:Nat):Int):=by rw[JZ (by omega)];simp
    have w2:wr .u64 (((n * 10:Nat):Int)+((Ib c.toNat:Nat):Int))=((n * 10+Ib c.toNat:Nat):Int):=by rw[JZ (by omega)];simp
    have w3:wr .u64 (18446744073709551615-((Ib c.toNat:Nat):Int))=18446744073709551615-((Ib c.toNat:Nat):Int):=JZ (by omega)
    rw[w1,w2,w3,Int.tdiv_eq_ediv_of_nonneg (by omega),JZ (by omega)]
    have c1: ¬((n:Int)>(18446744073709551615-((Ib c.toNat:Nat):Int)) / 10):=by omega
    rw[if_neg (by simpa using c1),IR]
    by_cases c2:n * 10+Ib c.toNat≤m
    · have c3: ¬(((n * 10+Ib c.toNat:Nat):Int)>(m:Int)):=by omega
      rw[decide_eq_false c3]
      simp only[Bool.false_eq_true,if_false]
      exact AXq hm k9 l _ h.2 c2
    · have c3:(((n * 10+Ib c.toNat:Nat):Int)>(m:Int)):=by omega
      have:=UH l (n * 10+Ib c.toNat)
      rw[decide_eq_true c3,if_neg (by omega)];rfl
theorem AM5{m:Nat} (hm:m≤2^59) (l:List UInt8) (hb:l.length≤2^60):Jv N l (m:Int)=some (if l=[]then(0,3)else if l.all F9=true then(if IR 0 l≤m then(((IR 0 l:Nat):Int),0)else(0,4))else(0,1)):=by
  unfold Jv EL
  by_cases h:l=[]
  · subst h;rfl
  · rw[if_neg (by simpa using h),if_neg h,AB,AV (by unfold AO;omega),AXf]
    by_cases h1:l.all F9=true
    · rw[if_pos h1,if_pos h1,AB,AV (by unfold AO;omega),show(0:Int)=((0:Nat):Int)from rfl,AXq hm _ l 0 h1 (by omega)]
      split<;>rfl
    · rw[if_neg h1,if_neg h1];rfl
section
variable{s sg W F FR P EX:List UInt8}
theorem NumP.len (h:NumP s sg W F FR P EX):s.length=sg.length+(W.length+(FR.length+EX.length))∧F.length≤FR.length∧P.length≤EX.length:=by
  refine⟨by rw[h.eq];simp,?_,?_⟩
  · rcases h.fr with⟨e1,e2⟩|e
    · rw[e2];simp
    · rw[e];simp
  · rcases h.ex with⟨e1,e2⟩|e|e
    · rw[e2];simp
    · rw[e];simp
    · rw[e];simp
end
end
end Go.VM
namespace Go.VM
section
variable{N:Nat}
theorem Ub (k2:Unit→Option Bool): ∀l:List UInt8,Aq N k2 l=if l.all F9=true then k2 ()else some false
  |[]=>by rw[Aq];rfl
  | c::l=>by
    rw[Aq,P6,Option.bind_some,Ub k2 l]
    cases h:F9 c<;>simp[h]
theorem UF (l:List UInt8) (hb:l.length≤2^60):H7 N l=some (!l.isEmpty&&l.all F9):=by
  unfold H7 ET
  cases l with
  |nil=>rfl
  | cons c l=>
    rw[if_neg (by exact Bool.false_ne_true),AB,Be (by omega),Ub]
    cases h:(c::l).all F9<;>simp
theorem QD (k2:Unit→Option Bool): ∀l:List UInt8,Dy N k2 l=if l.all F9=true then k2 ()else some false
  |[]=>by rw[Dy];rfl
  | c::l=>by
    rw[Dy,OY,Option.bind_some,QD k2 l]
    cases h:F9 c<;>simp[h]
theorem AIR (l:List UInt8) (hb:l.length≤2^60):J3 N l=some (!l.isEmpty&&l.all F9):=by
  unfold J3
  rw[AB,Be (by omega),QD]
  cases l with
  |nil=>rfl
  |cons c l=>cases h:(c::l).all F9<;>simp
theorem AXs (k2:Unit→Option (Int×Int)): ∀l:List UInt8,Cf N 10 k2 l=if l.all F9=true then k2 ()else some (0,1)
  |[]=>by rw[Cf];rfl
  | c::l=>by
    rw[Cf,AB,show((10:Int)==10)=true from rfl,show((10:Int)==16)=false from rfl,if_pos rfl,OY,Option.bind_some,AXs k2 l]
    cases h:F9 c<;>simp[h]
theorem AXu{m:Nat} (hm:m≤2^59) (hm9:9≤m) (k9:Int→Option (Int×Int)): ∀(l:List UInt8) (n:Nat),l.all F9=true→n≤m→Ci N 10 (m:Int) k9 l (n:Int)=if IR n l≤m then k9 ((IR n l:Nat):Int)else some (0,4)
  |[],n,_,hn=>by rw[Ci,IR,if_pos hn]
  | c::l,n,h,hn=>by
    simp only[List.all_cons,Bool.and_eq_true]at h
    have hr:=Yl h.1
    have hd:Ib c.toNat≤9:=by rw[(TM h.1).2];omega
    obtain⟨hx,hv⟩:=TM h.1
    have c57: ¬(AJ c>57):=by rw[Ig];omega
    have hdv:wr .u64 (wr .u8 (AJ c-48))=((Ib c.toNat:Nat):Int):=by
      rw[Ig,WG (by omega),JZ (by omega),hv];omega
    rw[Ci]
    dsimp only[AB]
    rw[if_neg (by simpa using c57),hdv,AV (by decide),Int.tdiv_eq_ediv_of_nonneg (by omega)]
    have w1:wr .u64 ((n:Int) * 10)=((n * 10:Nat):Int):=by rw[JZ (by omega)];simp
    have w2:wr .u64 (((n * 10:Nat):Int)+((Ib c.toNat:Nat):Int))=((n * 10+Ib c.toNat:Nat):Int):=by rw[JZ (by omega)];simp
    have w3:wr .u64 ((m:Int)-((Ib c.toNat:Nat):Int))=(m:Int)-((Ib c.toNat:Nat):Int):=JZ (by omega)
    have w4:wr .u64 ((m:Int) / 10)=(m:Int) / 10:=JZ (by omega)
    rw[w1,w2,w3,w4,IR]
    have hge:=UH l (n * 10+Ib c.toNat)
    by_cases c1:(n:Int)>(m:Int) / 10
    · rw[if_pos (decide_eq_true c1),if_pos rfl,if_neg (by omega)]
    · rw[if_neg (by simpa using c1)]
      by_cases c2:((n * 10:Nat):Int)>(m:Int)-((Ib c.toNat:Nat):Int)
      · rw[if_pos (decide_eq_true c2),if_pos rfl,if_neg (by omega)]
      · rw[if_neg (by simpa using c2),if_neg (by simp;omega)]
        exact AXu hm hm9 k9 l _ h.2 (by omega)
def Et (m:Nat) (l:List UInt8):Int×Int:=
  if l=[]then(0,3)else if l.all F9=true then(if 1<l.length∧l.head?=some 48 then(0,6)else if IR 0 l≤m then(((IR 0 l:Nat):Int),0)else(0,4))else(0,1)
theorem b48 (c:UInt8):(AJ c==48)=decide (c=48):=by
  have:=DV (f:=fun n=>((n:Int)==48)) (g:=fun n=>decide (UInt8.ofNat n=48)) (by kernel_rfl) c
  simp only[UInt8.ofNat_toNat]at this
  exact this
theorem UJ (c:UInt8) (l:List UInt8) (e:Int×Int):(if decide (((c::l).length:Int)>1)=true then Option.bind (idx (c::l) 0) fun x=>if(AJ x==48)=true then(some (0,6):Option (Int×Int))else some (e.1,e.2)else if false=true then some (0,6)else some (e.1,e.2))=some (if 1<(c::l).length∧(c::l).head?=some 48 then(0,6)else e):=by
  by_cases hl:1<(c::l).length
  · rw[if_pos (by simp only[decide_eq_true_eq];omega),show idx (c::l) 0=some c from rfl,Option.bind_some,b48]
    by_cases hc:c=48
    · rw[decide_eq_true hc,if_pos rfl,if_pos ⟨hl,by simp[hc]⟩]
    · rw[decide_eq_false hc,if_neg (by decide),if_neg (by simp[hc])]
  · rw[if_neg (by simp only[decide_eq_true_eq];omega),if_neg (by decide),if_neg (fun h=>hl h.1)]
theorem U3{m:Nat} (hm:m≤2^59) (l:List UInt8) (hb:l.length≤2^60):Gt N l (m:Int)=some (Et m l):=by
  unfold Gt Et
  dsimp only[AB]
  rw[UF l hb,Option.bind_some,AM5 hm l hb,Option.bind_some]
  cases l with
  |nil=>rfl
  | cons c l=>
    simp only[reduceCtorEq,if_false]
    obtain⟨b,h⟩: ∃b,(c::l).all F9=b:=⟨_,rfl⟩
    rw[h]
    cases b
    · rw[if_neg (by simp),if_neg (by decide)];rfl
    · rw[if_pos (by rfl),if_pos rfl,if_pos rfl]
      have hd: ∀e:Int×Int,(if decide (((c::l).length:Int)>1)=true then Option.bind (idx (c::l) 0) fun x=>if(AJ x==48)=true then(some (0,6):Option (Int×Int))else some (e.1,e.2)else if false=true then some (0,6)else some (e.1,e.2))=some (if 1<(c::l).length∧(c::l).head?=some 48 then(0,6)else e):=UJ c l
      by_cases hv:IR 0 (c::l)≤m
      · rw[if_pos hv];exact hd (((IR 0 (c::l):Nat):Int),0)
      · rw[if_neg hv];exact hd (0,4)
theorem Tv{m:Nat} (hm:m≤2^59) (hm9:9≤m) (l:List UInt8) (hb:l.length≤2^60):II N l (m:Int)=some (Et m l):=by
  have hp:HV N l 10 (m:Int)=some (if l=[]then(0,3)else if l.all F9=true then(if IR 0 l≤m then(((IR 0 l:Nat):Int),0)else(0,4))else(0,1)):=by
    unfold HV
    by_cases h:l=[]
    · subst h;rfl
    · rw[if_neg (by simpa using h),if_neg h,AB,Be (by omega),AXs]
      by_cases h1:l.all F9=true
      · rw[if_pos h1,if_pos h1,AB,Be (by omega),show(0:Int)=((0:Nat):Int)from rfl,AXu hm hm9 _ l 0 h1 (by omega)]
        split<;>rfl
      · rw[if_neg h1,if_neg h1]
  unfold II Et
  rw[hp,Option.bind_some]
  dsimp only[AB]
  cases l with
  |nil=>rfl
  | cons c l=>
    simp only[reduceCtorEq,if_false]
    obtain⟨b,h⟩: ∃b,(c::l).all F9=b:=⟨_,rfl⟩
    rw[h]
    cases b
    · rfl
    · simp only[if_true]
      have hd:=UJ c l
      by_cases hv:IR 0 (c::l)≤m
      · rw[if_pos hv,if_pos (by rfl)];exact hd (((IR 0 (c::l):Nat):Int),0)
      · rw[if_neg hv,if_neg (by exact Bool.false_ne_true),if_pos (by rfl)];exact hd (0,4)
end
end Go.VM
namespace Go.VM
section
variable{N:Nat}
def AHe (c:UInt8):Bool:=IU c||(F9 c||decide (c=45))
theorem b45 (c:UInt8):(AJ c==45)=decide (c=45):=by
  have:=DV (f:=fun n=>((n:Int)==45)) (g:=fun n=>decide (UInt8.ofNat n=45)) (by kernel_rfl) c
  simp only[UInt8.ofNat_toNat]at this
  exact this
theorem Wy (k8:Unit→Option Bool): ∀l:List UInt8,Es N k8 l=if l.all AHe=true then k8 ()else some false
  |[]=>by rw[Es];rfl
  | c::l=>by
    rw[Es,AB,OX,Option.bind_some,P6,Option.bind_some,bne,b45,Wy k8 l,List.all_cons]
    unfold AHe
    cases IU c<;>cases F9 c<;>cases decide (c=45)<;>simp
theorem WP (k2:Unit→Option Bool): ∀l:List UInt8,EQ N k2 l=if l.all AHe=true then k2 ()else some false
  |[]=>by rw[EQ];rfl
  | c::l=>by
    rw[EQ,AB,OU,Option.bind_some,OY,Option.bind_some,bne,b45,WP k2 l,List.all_cons]
    unfold AHe
    cases IU c<;>cases F9 c<;>cases decide (c=45)<;>simp
def KL (l:List UInt8):Bool:=!l.isEmpty&&(decide (l.length≤63)&&(decide (l.head?≠some 45)&&(decide (l.getLast?≠some 45)&&l.all AHe)))
theorem Vm{c:UInt8}{l:List UInt8} (hb:(c::l).length≤2^60): ∃d,(c::l).getLast?=some d∧idx (c::l) (wr .i64 (((c::l).length:Int)-1))=some d:=by
  have hne:(c::l)≠ []:=by simp
  refine⟨(c::l).getLast hne,List.getLast?_eq_some_getLast hne,?_⟩
  rw[show wr .i64 (((c::l).length:Int)-1)=(((c::l).length-1:Nat):Int) by simp only[List.length_cons]at hb⊢;rw[AR (by omega)];omega,IC,←List.getLast?_eq_getElem?,List.getLast?_eq_some_getLast hne]
theorem AKw (l:List UInt8) (hb:l.length≤2^60):LJ N l=some (KL l):=by
  unfold LJ KL
  dsimp only[AB]
  cases l with
  |nil=>rfl
  | cons c l=>
    obtain⟨d,h1,h2⟩:=Vm hb
    rw[if_neg (by exact Bool.false_ne_true),h2,h1,show idx (c::l) 0=some c from rfl,Option.bind_some,Option.bind_some,b45,b45,Be (by omega),Wy]
    by_cases hl:(c::l).length≤63
    · rw [if_neg (by simp only[decide_eq_true_eq];omega),decide_eq_true hl]
      by_cases hc:c=45
      · rw[decide_eq_true hc,if_pos rfl,if_pos rfl];simp[hc]
      · rw[decide_eq_false hc,if_neg (by decide)]
        by_cases hd:d=45
        · rw[decide_eq_true hd,if_pos rfl];simp[hd]
        · rw[decide_eq_false hd,if_neg (by decide)]
          obtain⟨b,hb2⟩: ∃b,(c::l).all AHe=b:=⟨_,rfl⟩
          rw[hb2];cases b<;>simp[hc,hd]
    · rw[if_pos (by simp only[decide_eq_true_eq];omega),if_pos rfl,decide_eq_false hl];simp
theorem AKm (l:List UInt8) (hb:l.length≤2^60):KW N l=some (KL l):=by
  unfold KW KL
  dsimp only[AB]
  rw[Be (by omega),WP]
  cases l with
  |nil=>rfl
  | cons c l=>
    obtain⟨d,h1,h2⟩:=Vm hb
    obtain⟨b,hb2⟩: ∃b,(c::l).all AHe=b:=⟨_,rfl⟩
    rw[if_neg (c:=((c::l==[])=true)) (by exact Bool.false_ne_true),h2,h1,show idx (c::l) 0=some c from rfl,Option.bind_some,Option.bind_some,bne,bne,b45,b45,hb2]
    cases b
    · simp
    · rw [if_pos rfl]
      by_cases hl:(c::l).length≤63
      · rw[if_pos (by simp only[decide_eq_true_eq];omega),decide_eq_true hl]
        by_cases hc:c=45
        · rw[decide_eq_true hc,if_neg (by decide)];simp[hc]
        · rw[decide_eq_false hc,if_pos (by decide)]
          by_cases hd:d=45<;>simp[hc,hd]
      · rw[if_neg (by simp only[decide_eq_true_eq];omega),decide_eq_false hl];simp
end
end Go.VM
namespace Go.VM
def Ar (c:UInt8):List UInt8→List (List UInt8)
  |[]=>[[]]
  |x::t=>if x=c then []::Ar c t else(match Ar c t with|p::ps=>(x::p)::ps|[]=>[[x]])
theorem H5 (c:UInt8): ∀l:List UInt8,Ar c l≠ []
  |[]=>by simp[Ar]
  | x::t=>by
    rw[Ar]
    split
    · simp
    · split<;>simp
def AJF (cur:List UInt8):List (List UInt8)→List (List UInt8)
  |p::ps=>(cur++p)::ps
  |[]=>[cur]
theorem ALA{c x:UInt8}{t cur:List UInt8} (h: ¬x=c):AJF cur (Ar c (x::t))=AJF (cur++[x]) (Ar c t):=by
  rw[Ar,if_neg h]
  cases hs:Ar c t with
  |nil=>exact absurd hs (H5 c t)
  |cons p ps=>simp[AJF]
theorem I6 (c:UInt8): ∀l:List UInt8,(Ar c l).length≤l.length+1
  |[]=>by simp[Ar]
  | x::t=>by
    have:=I6 c t
    rw[Ar]
    split
    · simp only[List.length_cons];omega
    · split
      · rename_i h;rw[h]at this;simp only[List.length_cons]at this⊢;omega
      · simp
theorem F4 (c:UInt8): ∀(l p:List UInt8),p∈Ar c l→p.length≤l.length
  |[],p,h=>by simp[Ar]at h;subst h;simp
  | x::t,p,h=>by
    rw[Ar]at h
    split at h
    · rcases List.mem_cons.1 h with rfl|h
      · simp
      · have:=F4 c t p h;simp only[List.length_cons];omega
    · split at h
      · rename_i q qs hq
        rcases List.mem_cons.1 h with rfl|h
        · have:=F4 c t q (by rw[hq];simp);simp only[List.length_cons];omega
        · have:=F4 c t p (by rw[hq];simp[h]);simp only[List.length_cons];omega
      · simp only[List.mem_singleton]at h;subst h;simp
section
variable{N:Nat}
theorem AUv (x c:UInt8):(AJ x==AJ c)=decide (x=c):=by
  by_cases e:x=c
  · subst e;simp
  · have: ¬x.toNat=c.toNat:=fun h=>e (UInt8.toNat_inj.1 h)
    rw[decide_eq_false e]
    simp only[AJ,beq_eq_false_iff_ne,ne_eq];omega
theorem OE (l:List UInt8) (c:UInt8) (hb:l.length≤1000000): ∀(t pre cur:List UInt8) (out:List (List UInt8)),l=pre++(cur++t)→out.length≤pre.length+cur.length→
    EU N l (AJ c) (fun j1=>Option.bind (sub l j1.2 (l.length:Int)) fun x11=>grd (Cg (j1.1.length+1) 16) (some (j1.1++[x11]))) t ((pre.length+cur.length:Nat):Int) out (pre.length:Int)=some (out++AJF cur (Ar c t))
  | [],pre,cur,out,h,ho=>by
    have hl:=congrArg List.length h
    simp only[List.length_append,List.length_nil]at hl
    rw[EU]
    dsimp only
    rw[DI l pre.length l.length (by omega) (by omega),Option.bind_some,AV (by unfold Cg;omega),h,List.drop_left]
    simp[Ar,AJF]
  | x::t,pre,cur,out,h,ho=>by
    have hl:=congrArg List.length h
    simp only[List.length_append,List.length_cons]at hl
    rw[EU,AB,AUv]
    by_cases e:x=c
    · rw[decide_eq_true e,if_pos rfl,DI l pre.length (pre.length+cur.length) (by omega) (by omega),Option.bind_some,AV (by unfold Cg;omega)]
      dsimp only
      have:=OE l c hb t (pre++cur++[x]) [] (out++[cur]) (by rw[h];simp) (by simp only[List.length_append,List.length_cons,List.length_nil];omega)
      have e1:(l.drop pre.length).take (pre.length+cur.length-pre.length)=cur:=by
        rw[h,List.drop_left,show pre.length+cur.length-pre.length=cur.length by omega,List.take_left]
      rw[e1,Ar,if_pos e]
      rw[show(((pre++cur++[x]).length+([]:List UInt8).length:Nat):Int)=((pre.length+cur.length:Nat):Int)+1 by simp only[List.length_append,List.length_cons,List.length_nil];omega,show(((pre++cur++[x]).length:Nat):Int)=((pre.length+cur.length:Nat):Int)+1 by simp only[List.length_append,List.length_cons,List.length_nil];omega]at this
      rw[this]
      cases hs:Ar c t with
      |nil=>exact absurd hs (H5 c t)
      |cons p ps=>simp[AJF]
    · rw[decide_eq_false e,if_neg (by decide),ALA e]
      dsimp only
      have:=OE l c hb t pre (cur++[x]) out (by rw[h];simp) (by simp only[List.length_append,List.length_cons,List.length_nil];omega)
      rw[show((pre.length+(cur++[x]).length:Nat):Int)=((pre.length+cur.length:Nat):Int)+1 by simp only[List.length_append,List.length_cons,List.length_nil];omega]at this
      exact this
theorem Oo (l:List UInt8) (c:UInt8) (hb:l.length≤1000000):GR N l (AJ c)=some (Ar c l):=by
  unfold GR
  rw[AB,Be (by omega)]
  have:=OE (N:=N) l c hb l [] [] [] rfl (by simp)
  refine this.trans ?_
  cases hs:Ar c l with
  |nil=>exact absurd hs (H5 c l)
  |cons p ps=>simp[AJF]
end
end Go.VM
namespace Go.VM
theorem KF (c:UInt8): ∀l:List UInt8,Ar c l=if(AQ c l).2.2=true then(AQ c l).1::Ar c (AQ c l).2.1 else [(AQ c l).1]
  |[]=>by simp[Ar,AQ]
  | x::t=>by
    have ih:=KF c t
    rw[Ar]
    unfold AQ at ih⊢
    by_cases e:x=c
    · subst e;simp
    · have e1:(c==x)=false:=by simpa using fun h:c=x=>e h.symm
      have e3:(x !=c)=true:=by simpa using e
      rw[if_neg e,List.contains_cons,e1,Bool.false_or,List.takeWhile_cons,e3]
      cases hc:t.contains c
      · rw[hc]at ih;simp only[Bool.false_eq_true,if_false]at ih⊢;rw[ih]
      · rw[hc]at ih;simp only[if_true]at ih⊢;rw[ih,List.dropWhile_cons,e3];simp
section
variable{N:Nat}
def Aaz (l:List UInt8):Bool:=!l.isEmpty&&l.all F9
def PS (l:List UInt8):Bool:=(Ar 46 l).all KL&&!Aaz ((Ar 46 l).getLast (H5 46 l))
theorem ANI (l:List UInt8):PS l=(KL (AQ 46 l).1&&if(AQ 46 l).2.2=true then PS (AQ 46 l).2.1 else !Aaz (AQ 46 l).1):=by
  have h:=KF 46 l
  unfold PS
  cases hc:(AQ 46 l).2.2
  · rw[hc]at h;simp only[Bool.false_eq_true,if_false]at h⊢
    simp[h]
  · rw[hc]at h;simp only[if_true]at h⊢
    have: ∀(a:List (List UInt8)) (b:List UInt8) (r:List (List UInt8)) (hr:r≠ []) (ha:a≠ []),a=b::r→a.getLast ha=r.getLast hr:=fun a b r hr ha e=>by subst e;rw[List.getLast_cons hr]
    rw[this _ _ _ (H5 46 _) (H5 46 l) h]
    rw[show(Ar 46 l).all KL=(KL (AQ 46 l).1&&(Ar 46 (AQ 46 l).2.1).all KL) by rw[h,List.all_cons]]
    rw[Bool.and_assoc]
theorem ADi{c:UInt8}{l:List UInt8} (h:(AQ c l).2.2=true):(AQ c l).2.1.length<l.length:=by
  unfold AQ at h⊢
  cases hc:l.contains c
  · rw[hc]at h;simp at h
  · have h1:=JV hc
    have h2:(l.takeWhile (· !=c)).length+(l.dropWhile (· !=c)).length=l.length:=by rw[←List.length_append,List.takeWhile_append_dropWhile]
    simp only[if_true,List.length_drop];omega
theorem AVZ (c:UInt8) (l:List UInt8):(AQ c l).1.length≤l.length:=by
  unfold AQ
  split
  · exact LB _ l
  · exact Nat.le_refl _
theorem TR: ∀(k:Nat) (l:List UInt8),l.length<k→l.length≤2^60→Fy N k l=some (PS l)
  |0,l,h,_=>by omega
  | k+1,l,h,hb=>by
    have h1:=AVZ 46 l
    rw[Fy,LZ 46 l hb,Option.bind_some,AKw _ (by omega),Option.bind_some,ANI l]
    cases KL (AQ 46 l).1
    · rfl
    · rw[if_pos rfl,Bool.true_and]
      cases hc:(AQ 46 l).2.2
      · rw[if_neg (by decide),UF _ (by omega),Option.bind_some];rfl
      · have:=ADi hc
        rw[if_pos rfl,if_pos rfl]
        exact TR k _ (by omega) (by omega)
theorem ATg (l:List UInt8) (hN:l.length<N) (hb:l.length≤2^60):Oe N l=some (PS l):=TR N l hN hb
theorem Tk (k4:Unit→Option Bool): ∀ps:List (List UInt8),(∀p,p∈ps→p.length≤2^60)→Eu N k4 ps=if ps.all KL=true then k4 ()else some false
  |[],_=>by rw[Eu];rfl
  | p::ps,h=>by
    rw[Eu,AKm p (h p (by simp)),Option.bind_some,Tk k4 ps fun q hq=>h q (by simp[hq]),List.all_cons]
    cases KL p<;>simp
theorem ASZ (l:List UInt8) (hb:l.length≤1000000):LG N l=some (PS l):=by
  have hl:=I6 46 l
  have hp:=F4 46 l
  have hne:=H5 46 l
  unfold LG
  rw[show(46:Int)=AJ 46 from rfl,Oo l 46 hb,Option.bind_some]
  dsimp only[AB]
  rw[Be (by omega),Tk _ _ fun p h=>by have:=hp p h;omega]
  have hlast:idx (Ar 46 l) (wr .i64 (((Ar 46 l).length:Int)-1))=some ((Ar 46 l).getLast hne):=by
    have:0<(Ar 46 l).length:=List.length_pos_iff.2 hne
    rw[show wr .i64 (((Ar 46 l).length:Int)-1)=(((Ar 46 l).length-1:Nat):Int) by rw[AR (by omega)];omega,IC,←List.getLast?_eq_getElem?,List.getLast?_eq_some_getLast hne]
  have:=hp _ (List.getLast_mem hne)
  rw[hlast,Option.bind_some,AIR _ (by omega),Option.bind_some]
  unfold PS
  cases (Ar 46 l).all KL
  · rfl
  · rfl
def AIe (l:List UInt8):Bool:=decide ((Ar 46 l).length=4)&&(Ar 46 l).all fun p=>(Et 255 p).2==0
theorem Vo (k4:Unit→Option Bool): ∀ps:List (List UInt8),(∀p,p∈ps→p.length≤2^60)→D7 N k4 ps=if(ps.all fun p=>(Et 255 p).2==0)=true then k4 ()else some false
  |[],_=>by rw[D7];rfl
  | p::ps,h=>by
    rw[D7,show(255:Int)=((255:Nat):Int)from rfl,Tv (by decide) (by decide) p (h p (by simp)),Option.bind_some,Vo k4 ps fun q hq=>h q (by simp[hq]),List.all_cons]
    cases hx:((Et 255 p).2==0)<;>simp[bne,hx]
theorem AWR (l:List UInt8) (hb:l.length≤1000000):Jn N l=some (AIe l):=by
  have hl:=I6 46 l
  have hp:=F4 46 l
  unfold Jn
  rw[show(46:Int)=AJ 46 from rfl,Oo l 46 hb,Option.bind_some]
  dsimp only[AB]
  rw[Be (by omega),Vo _ _ fun p h=>by have:=hp p h;omega]
  unfold AIe
  have e:(((Ar 46 l).length:Int)==4)=decide ((Ar 46 l).length=4):=by
    by_cases h:(Ar 46 l).length=4
    · rw[decide_eq_true h,h];rfl
    · rw[decide_eq_false h];simp;omega
  rw[e]
  cases ((Ar 46 l).all fun p=>(Et 255 p).2==0)<;>simp
end
end Go.VM
namespace Go.VM
section
variable{N:Nat}
theorem Yc (c:UInt8) (l:List UInt8):strings_Index N l [c]=some (Go.Lib.indexByte l c):=by
  unfold strings_Index CS
  dsimp only[AB]
  rw[if_neg (by exact Bool.false_ne_true)]
  by_cases h:([c]==l)=true
  · have:l=[c]:=by have:=beq_iff_eq.1 h;exact this.symm
    subst this
    simp[Go.Lib.indexByte]
  · rw[if_neg h,if_pos (by rfl),show idx [c] 0=some c from rfl,Option.bind_some]
    unfold Am
    rw[JA];rfl
theorem Mj{c:UInt8}{l:List UInt8}:l.count c=0↔l.contains c=false:=by
  rw[List.count_eq_zero]
  simp
theorem RU{c:UInt8}: ∀ {l:List UInt8},l.contains c=true→l.count c=((l.dropWhile (· !=c)).drop 1).count c+1
  |[],h=>by simp at h
  | x::t,h=>by
    by_cases hx:x=c
    · subst hx;simp
    · have hx':(x !=c)=true:=by simpa using hx
      rw[List.contains_cons,show(c==x)=false by simpa using fun h:c=x=>hx h.symm,Bool.false_or]at h
      rw[List.dropWhile_cons,if_pos hx',List.count_cons,show(x==c)=false by simpa using hx,RU h]
      simp
theorem Fg{c:UInt8}{l:List UInt8} (h:l.contains c=true):AQ c l=(l.takeWhile (· !=c),(l.dropWhile (· !=c)).drop 1,true):=by unfold AQ;rw[if_pos h]
theorem MH{c:UInt8}{l:List UInt8} (h:l.contains c=false):AQ c l=(l,[],false):=by unfold AQ;rw[if_neg (by rw[h];decide)]
theorem Yw{c:UInt8}{l:List UInt8} (h:l.contains c=true) (hb:l.length≤1000000):
    sub l 0 (wr .i64 (Go.Lib.indexByte l c+0))=some (AQ c l).1∧sub l (wr .i64 (Go.Lib.indexByte l c+(([c]:List UInt8).length:Int))) (l.length:Int)=some (AQ c l).2.1:=by
  have hlt:=JV h
  rw[Ic]
  unfold AQ
  simp only[h,if_true]
  generalize hn:(l.takeWhile (· !=c)).length=n at *
  have w:wr .i64 ((n:Int)+(([c]:List UInt8).length:Int))=((n+1:Nat):Int):=by rw[AR (by simp<;>omega)];simp
  have w0:wr .i64 ((n:Int)+0)=(n:Int):=by rw[AR (by omega)];omega
  rw[w,w0,show(0:Int)=((0:Nat):Int)from rfl,DI l 0 n (by omega) (by omega),DI l (n+1) l.length (by omega) (by omega)]
  rw[List.drop_zero,Nat.sub_zero,←hn,F6,List.take_of_length_le (by simp),←List.drop_drop,Gg]
  exact⟨rfl,rfl⟩
theorem AFf{c:UInt8}{a0:List UInt8}{j3:Int}{M:Nat} (k10:List UInt8×Int×List (List UInt8)→Option (List (List UInt8)))
    (hE:(if(wr .i64 ((a0.length:Int)+1))<j3 then(wr .i64 ((a0.length:Int)+1))else j3)=((M:Nat):Int)) (hM:M≤2000000):
    ∀(k:Nat) (s:List UInt8) (done:List (List UInt8)),s.count c=k→s.length≤1000000→done.length+k+1≤M→
      ∃pre last,pre++[last]=done++Ar c s∧pre.length=done.length+k∧Bj N a0 [c] 0 j3 k10 k (done.length:Int) s (done++List.replicate (k+1) [])=k10 (last,((done.length+k:Nat):Int),pre++[[]])
  | 0,s,done,hc,hs,hd=>by
    have h0:=Mj.1 hc
    refine⟨done,s,?_,rfl,?_⟩
    · rw[KF,MH h0];rfl
    · rw[Bj];rfl
  | k+1,s,done,hc,hs,hd=>by
    have h1:s.contains c=true:=by
      cases h:s.contains c
      · have:=Mj.2 h;omega
      · rfl
    obtain⟨s1,s2⟩:=Yw h1 hs
    have hcb:=RU h1
    have hc1:(AQ c s).2.1=(s.dropWhile (· !=c)).drop 1:=by rw[Fg h1]
    rw[←hc1]at hcb
    have hl:=FP c s
    obtain⟨pre,last,p1,p2,p3⟩:=AFf (c:=c) k10 hE hM k (AQ c s).2.1 (done++[(AQ c s).1]) (by omega) (by omega) (by simp;omega)
    refine⟨pre,last,?_,by rw[p2];simp;omega,?_⟩
    · rw[p1,KF c s,if_pos (by rw[Fg h1])];simp
    · rw[Bj,Yc,Option.bind_some,if_neg (by rw[Ic,if_pos h1];simp),s1,Option.bind_some,hE,AV (by constructor<;>omega),AV (by simp),s2,Option.bind_some]
      have e1:(done++List.replicate (k+1+1) ([]:List UInt8)).set (done.length:Int).toNat (AQ c s).1=(done++[(AQ c s).1])++List.replicate (k+1) []:=by
        rw[Int.toNat_natCast,List.set_append_right _ _ (Nat.le_refl _),Nat.sub_self,List.replicate_succ,List.set_cons_zero];simp
      rw[e1]
      have e2:(done.length:Int)+1=(((done++[(AQ c s).1]).length:Nat):Int):=by simp
      rw[e2,p3]
      congr 2
      simp;omega
theorem AMD (l:List UInt8) (c:UInt8) (hb:l.length≤1000000):strings_Split N l [c]=some (Ar c l):=by
  have hcl:l.count c≤l.length:=List.count_le_length
  have hcnt:strings_Count N l [c]=some ((l.count c:Nat):Int):=by
    unfold strings_Count
    rw[if_neg (by exact Bool.false_ne_true),if_pos (by rfl),show idx [c] 0=some c from rfl,Option.bind_some,JA]
    rfl
  unfold strings_Split strings_genSplit
  dsimp only[AB]
  rw[if_neg (by decide),if_neg (by simp),if_pos (by decide),hcnt,Option.bind_some]
  have w1:wr .i64 (((l.count c:Nat):Int)+1)=((l.count c+1:Nat):Int):=by rw[AR (by omega)];simp
  have w2:wr .i64 ((l.length:Int)+1)=((l.length+1:Nat):Int):=by rw[AR (by omega)];simp
  rw[w1]
  have hE:(if(wr .i64 ((l.length:Int)+1))<((l.count c+1:Nat):Int)then(wr .i64 ((l.length:Int)+1))else((l.count c+1:Nat):Int))=((l.count c+1:Nat):Int):=by rw[w2,if_neg (by omega)]
  obtain⟨pre,last,p1,p2,p3⟩:=AFf (N:=N) (c:=c) (a0:=l) (j3:=((l.count c+1:Nat):Int)) (M:=l.count c+1) (fun j9:(List UInt8)×Int×(List (List UInt8))=>
     grd (0≤j9.2.1∧j9.2.1<((if(wr .i64 ((l.length:Int)+1))<((l.count c+1:Nat):Int)then(wr .i64 ((l.length:Int)+1))else((l.count c+1:Nat):Int)).toNat:Int)) (
     grd (j9.2.1.toNat+1≤j9.2.2.length) (
     grd (0≤(wr .i64 (j9.2.1+1))∧(wr .i64 (j9.2.1+1))≤((if(wr .i64 ((l.length:Int)+1))<((l.count c+1:Nat):Int)then(wr .i64 ((l.length:Int)+1))else((l.count c+1:Nat):Int)).toNat:Int)) (
     grd ((wr .i64 (j9.2.1+1)).toNat≤j9.2.2.length) (
     some (List.take ((wr .i64 (j9.2.1+1)).toNat) (j9.2.2.set j9.2.1.toNat j9.1))))))) hE (by omega) (l.count c) l [] rfl hb (by simp)
  have w3:(wr .i64 (((l.count c+1:Nat):Int)-1)-0).toNat=l.count c:=by rw[AR (by omega)];omega
  rw[hE]at p3⊢
  rw[AV (by unfold Q7;omega),AV (by rw[AR (by omega)];omega),w3]
  simp only[Int.toNat_natCast]at p3⊢
  simp only[List.nil_append,List.length_nil,Nat.zero_add]at p1 p2 p3
  rw[show((0:Nat):Int)=0 from rfl]at p3
  rw[p3]
  have w4:wr .i64 (((l.count c:Nat):Int)+1)=((pre.length+1:Nat):Int):=by rw[AR (by omega),p2];simp
  rw[w4]
  simp only[Int.toNat_natCast]
  rw[AV (by omega),AV (by simp;omega),AV (by omega),AV (by simp),Option.bind_some]
  rw[←p2,List.set_append_right _ _ (Nat.le_refl _),Nat.sub_self,List.set_cons_zero,List.take_of_length_le (by simp),p1]
end
end Go.VM
namespace Go.VM
section
variable{N:Nat}
section
variable{l t:List UInt8}{i p:Nat}
end
end
end Go.VM
namespace Go.VM
section
variable{N:Nat}
section
variable{l:List UInt8}
end
theorem I1: ∀l:List UInt8,List.map Fx (List.map AJ l)=l
  |[]=>rfl
  |c::l=>by rw[List.map_cons,List.map_cons,JA,I1 l]
end
end Go.VM
