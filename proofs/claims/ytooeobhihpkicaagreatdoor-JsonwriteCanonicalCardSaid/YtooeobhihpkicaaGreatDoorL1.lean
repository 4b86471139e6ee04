import Derived.Test.YtooeobhihpkicaaGreatDoorVM2
import GoSem.Claim
import Derived.Test.YtooeobhihpkicaaGreatDoorDefs
import Derived.KernelRfl
set_option linter.unusedVariables false
set_option linter.unusedSimpArgs false
namespace Go.VM
theorem Hw{n:Nat} (h:n≤9223372036854775807):wr .i64 (n:Int)=n:=by
  simp[wr,IntKind.wrap,IntKind.bits,IntKind.signed];omega
theorem Ak{n:Int} (h: -9223372036854775808≤n∧n≤9223372036854775807):wr .i64 n=n:=by
  simp[wr,IntKind.wrap,IntKind.bits,IntKind.signed];omega
theorem Ny{α:Type} (l:List α) (n:Nat):idx l (n:Int)=l[n]?:=by simp[idx]
theorem ABw{α:Type} (pre suf:List α) (x:α):idx (pre++x::suf) (pre.length:Int)=some x:=by simp[idx]
theorem AFH{α:Type}{l pre suf:List α}{x:α} (h:l=pre++x::suf):idx l (pre.length:Int)=some x:=by rw[h];exact ABw ..
theorem AMT{α:Type}{l pre suf:List α}{x:α} (h:l=pre++x::suf):decide ((pre.length:Int)<(l.length:Int))=true:=by
  subst h;simp only[decide_eq_true_eq,List.length_append,List.length_cons];omega
theorem Qg{α:Type} (pre:List α) (x:α):(pre.length:Int)+1=((pre++[x]).length:Int):=by simp
theorem FE{α:Type} (l:List α) (a b:Nat) (h1:a≤b) (h2:b≤l.length):sub l (a:Int) (b:Int)=some ((l.drop a).take (b-a)):=by
  have h1':(a:Int)≤b:=by omega
  have h2':(b:Int)≤l.length:=by omega
  simp[sub,h1',h2']
theorem AZ{α:Type}{c:Prop} [Decidable c]{x:Option α} (h:c):grd c x=x:=by simp[grd,h]
theorem AA8{α:Type}{n:Nat}{x:Option α} (h:n≤4611686018427387904):grd (Bf n) x=x:=AZ h
theorem AR{α β:Type} (k:α→Option β) (body:(α→Option β)→Option β):Ab k body=body k:=rfl
end Go.VM
namespace Go.VM
theorem IX (c:UInt8):Am c=(c.toNat:Int):=rfl
theorem Kl (c:UInt8):IR (Am c)=c:=by simp[IR,Am]
theorem AMP{a b:UInt8}:a=b↔a.toNat=b.toNat:=⟨fun h=>by rw[h],UInt8.toNat_inj.1⟩
theorem toNat_ofNat{n:Nat} (h:n<256):(UInt8.ofNat n).toNat=n:=by simp;omega
theorem Gg{P:Nat→Prop} [∀n,Decidable (P n)] (h:(List.range 256).all (fun n=>decide (P n))=true) (c:UInt8):P c.toNat:=by
  have:=List.all_eq_true.1 h c.toNat (List.mem_range.2 c.toNat_lt)
  simpa using this
theorem AKR{n:Int} (h:0≤n∧n<256):wr .u8 n=n:=by
  simp[wr,IntKind.wrap,IntKind.bits,IntKind.signed];omega
theorem Jt{n:Int} (h:0≤n∧n<18446744073709551616):wr .u64 n=n:=by
  simp[wr,IntKind.wrap,IntKind.bits,IntKind.signed];omega
theorem Pt{x:Nat} (h:x<2^63):(BitVec.ofInt 64 (x:Int)).toNat=x:=by
  rw[BitVec.toNat_ofInt];simp;omega
theorem ALi{x y:Nat} (hx:x<2^62) (hy:y<2^62):Iy .i64 x y=((x|||y:Nat):Int):=by
  have h:x|||y<2^62:=Nat.or_lt_two_pow hx hy
  show IntKind.i64.wrap (((BitVec.ofInt 64 (x:Int)|||BitVec.ofInt 64 (y:Int):BitVec 64).toNat:Nat):Int)=_
  rw[BitVec.toNat_or,Pt (by omega),Pt (by omega)]
  simp[IntKind.wrap,IntKind.bits,IntKind.signed];omega
theorem AII{x y:Nat} (hx:x<2^62) (hy:y<2^62):Dc .i64 x y=((x&&&y:Nat):Int):=by
  have h:x&&&y<2^62:=Nat.and_lt_two_pow _ hy
  show IntKind.i64.wrap (((BitVec.ofInt 64 (x:Int)&&&BitVec.ofInt 64 (y:Int):BitVec 64).toNat:Nat):Int)=_
  rw[BitVec.toNat_and,Pt (by omega),Pt (by omega)]
  simp[IntKind.wrap,IntKind.bits,IntKind.signed];omega
theorem AK8{q y:Nat} (k:Nat) (h:y<2^k):(q * 2^k)|||y=q * 2^k+y:=by
  rw[←Nat.shiftLeft_eq,Nat.shiftLeft_add_eq_or_of_lt h]
theorem OG{q y:Nat} (k:Nat) (h:y<2^k) (hx:q * 2^k<2^62) (hy:y<2^62):Iy .i64 ((q * 2^k:Nat):Int) (y:Int)=((q * 2^k+y:Nat):Int):=by
  rw[ALi hx hy,AK8 k h]
theorem Nq{x:Nat} (k:Nat) (hx:x<2^62) (hk:2^k≤2^61):Dc .i64 (x:Int) ((2^k-1:Nat):Int)=((x % 2^k:Nat):Int):=by
  have h1:1≤2^k:=Nat.one_le_two_pow
  rw[AII hx (by omega),Nat.and_two_pow_sub_one_eq_mod]
theorem NK{x:Nat} (hx:x<2^62):Dc .i64 (x:Int) 63=((x % 64:Nat):Int):=Nq 6 hx (by decide)
theorem UM{x k:Nat} (h:k≤64):JO .i64 (x:Int) (k:Int)=((x / 2^k:Nat):Int):=by
  simp only[JO,IntKind.bits,Int.toNat_natCast]
  rw[Nat.min_eq_left h,Int.fdiv_eq_ediv_of_nonneg]
  · simp
  · exact Int.le_of_lt (Int.pow_pos (by decide))
theorem AH7{x k:Nat} (h:k≤64) (hx:x * 2^k<2^63):JE .i64 (x:Int) (k:Int)=((x * 2^k:Nat):Int):=by
  simp only[JE,IntKind.bits,Int.toNat_natCast]
  rw[Nat.min_eq_left h]
  have:(x:Int) * 2^k=((x * 2^k:Nat):Int):=by simp
  rw[this]
  exact Hw (n:=x * 2^k) (by omega)
theorem ANL{x:Nat}:JO .i64 (x:Int) 6=((x / 64:Nat):Int):=UM (k:=6) (by decide)
theorem AMA{x:Nat}:JO .i64 (x:Int) 12=((x / 4096:Nat):Int):=UM (k:=12) (by decide)
theorem AMH{x:Nat}:JO .i64 (x:Int) 18=((x / 262144:Nat):Int):=UM (k:=18) (by decide)
theorem AMy{x:Nat} (h:x<2^50):JE .i64 (x:Int) 6=((x * 64:Nat):Int):=AH7 (k:=6) (by decide) (by omega)
theorem AKT{x y:Nat} (h:x<2^50) (hy:y<64):Iy .i64 (JE .i64 (x:Int) 6) (y:Int)=((x * 64+y:Nat):Int):=by
  rw[AMy h];exact OG 6 hy (by omega) (by omega)
theorem AKU{y:Nat} (hy:y<64):Iy .i64 192 (y:Int)=((192+y:Nat):Int):=OG (q:=3) 6 hy (by decide) (by omega)
theorem Oq{y:Nat} (hy:y<64):Iy .i64 128 (y:Int)=((128+y:Nat):Int):=OG (q:=2) 6 hy (by decide) (by omega)
theorem AKu{y:Nat} (hy:y<32):Iy .i64 224 (y:Int)=((224+y:Nat):Int):=OG (q:=7) 5 hy (by decide) (by omega)
theorem ALK{y:Nat} (hy:y<16):Iy .i64 240 (y:Int)=((240+y:Nat):Int):=OG (q:=15) 4 hy (by decide) (by omega)
theorem NB{n:Nat}:wr .u8 (n:Int)=((n % 256:Nat):Int):=by
  simp[wr,IntKind.wrap,IntKind.bits,IntKind.signed]
theorem ACC{n:Nat}:IR (n:Int)=UInt8.ofNat n:=by simp[IR]
theorem Fj:(List.range 256).all (fun n=>decide (
    Gq .u8 (n:Int) 127=((n / 128 * 128:Nat):Int)∧Gq .u8 (n:Int) 31=((n / 32 * 32:Nat):Int)∧Gq .u8 (n:Int) 15=((n / 16 * 16:Nat):Int)∧Gq .u8 (n:Int) 7=((n / 8 * 8:Nat):Int)∧
    Dc .u8 (n:Int) 127=((n % 128:Nat):Int)∧Dc .u8 (n:Int) 31=((n % 32:Nat):Int)∧Dc .u8 (n:Int) 15=((n % 16:Nat):Int)∧Dc .u8 (n:Int) 7=((n % 8:Nat):Int)∧
    Dc .u8 (n:Int) 192=((n / 64 * 64:Nat):Int)∧Dc .u8 (n:Int) 63=((n % 64:Nat):Int)))=true:=by decide+kernel
theorem AMN (c:UInt8):Gq .u8 (Am c) 127=((c.toNat / 128 * 128:Nat):Int):=(Gg Fj c).1
theorem AMx (c:UInt8):Gq .u8 (Am c) 31=((c.toNat / 32 * 32:Nat):Int):=(Gg Fj c).2.1
theorem AM9 (c:UInt8):Gq .u8 (Am c) 15=((c.toNat / 16 * 16:Nat):Int):=(Gg Fj c).2.2.1
theorem bn7 (c:UInt8):Gq .u8 (Am c) 7=((c.toNat / 8 * 8:Nat):Int):=(Gg Fj c).2.2.2.1
theorem AM8 (c:UInt8):Dc .u8 (Am c) 127=((c.toNat % 128:Nat):Int):=(Gg Fj c).2.2.2.2.1
theorem b31 (c:UInt8):Dc .u8 (Am c) 31=((c.toNat % 32:Nat):Int):=(Gg Fj c).2.2.2.2.2.1
theorem b15 (c:UInt8):Dc .u8 (Am c) 15=((c.toNat % 16:Nat):Int):=(Gg Fj c).2.2.2.2.2.2.1
theorem b7 (c:UInt8):Dc .u8 (Am c) 7=((c.toNat % 8:Nat):Int):=(Gg Fj c).2.2.2.2.2.2.2.1
theorem AM4 (c:UInt8):Dc .u8 (Am c) 192=((c.toNat / 64 * 64:Nat):Int):=(Gg Fj c).2.2.2.2.2.2.2.2.1
theorem b63 (c:UInt8):Dc .u8 (Am c) 63=((c.toNat % 64:Nat):Int):=(Gg Fj c).2.2.2.2.2.2.2.2.2
end Go.VM
namespace Go.VM
section
variable{N:Nat}
def DI (r:Int):Bool:=decide (0≤r)&&(decide (r≤1114111)&&(decide (r<55296)||decide (r>57343)))
theorem AEw{r:Int} (h:DI r=true):0≤r∧r≤1114111∧(r<55296∨r>57343):=by
  simpa[DI]using h
theorem AEK (r:Int):JM N r=some (DI r):=by
  unfold JM DI
  by_cases h1:r≥0<;>by_cases h2:r≤1114111<;>by_cases h3:r<55296<;>simp[h1,h2,h3]
theorem ADz (r:Int):Fw N r=some (DI r):=by
  unfold Fw DI
  by_cases h1:r≥0<;>by_cases h2:r≤1114111<;>by_cases h3:r<55296<;>simp[h1,h2,h3]
def KU (r:Nat):List UInt8:=
  if r<128 then [.ofNat r]
  else if r<2048 then [.ofNat (192+r / 64),.ofNat (128+r % 64)]
  else if r<65536 then [.ofNat (224+r / 4096),.ofNat (128+r / 64 % 64),.ofNat (128+r % 64)]
  else [.ofNat (240+r / 262144),.ofNat (128+r / 4096 % 64),.ofNat (128+r / 64 % 64),.ofNat (128+r % 64)]
def encR (r:Int):List UInt8×Int:=if DI r=true then(KU r.toNat,0)else([],4)
theorem NN (r:Int):GL N r=some (encR r):=by
  unfold GL encR
  rw[AEK,Option.bind_some]
  cases hp:DI r with
  |false=>rfl
  | true=>
    obtain⟨h0,h1,_⟩:=AEw hp
    obtain⟨n,rfl⟩: ∃n:Nat,r=n:=⟨r.toNat,by omega⟩
    simp only[if_true,letL,Int.toNat_natCast,KU,List.map_cons,List.map_nil,ANL,AMA,AMH]
    by_cases c1:n<128
    · have c1':(n:Int)<128:=by omega
      simp only[c1,c1',decide_true,if_true,NB,ACC,Nat.mod_eq_of_lt (show n<256 by omega)]
    · have c1': ¬(n:Int)<128:=by omega
      simp only[c1,c1',decide_false,if_false,Bool.false_eq_true]
      by_cases c2:n<2048
      · have c2':(n:Int)<2048:=by omega
        simp only[c2,c2',decide_true,if_true]
        rw[AKU (by omega),NK (by omega),Oq (by omega)]
        simp only[NB,ACC,Nat.mod_eq_of_lt (show 192+n / 64<256 by omega),Nat.mod_eq_of_lt (show 128+n % 64<256 by omega)]
      · have c2': ¬(n:Int)<2048:=by omega
        simp only[c2,c2',decide_false,if_false,Bool.false_eq_true]
        by_cases c3:n<65536
        · have c3':(n:Int)<65536:=by omega
          simp only[c3,c3',decide_true,if_true]
          rw[AKu (by omega),NK (by omega),NK (by omega),Oq (by omega),Oq (by omega)]
          simp only[NB,ACC,Nat.mod_eq_of_lt (show 224+n / 4096<256 by omega),Nat.mod_eq_of_lt (show 128+n % 64<256 by omega),Nat.mod_eq_of_lt (show 128+n / 64 % 64<256 by omega)]
        · have c3': ¬(n:Int)<65536:=by omega
          simp only[c3,c3',decide_false,if_false,Bool.false_eq_true]
          rw[ALK (by omega),NK (by omega),NK (by omega),NK (by omega),Oq (by omega),Oq (by omega),Oq (by omega)]
          simp only[NB,ACC,Nat.mod_eq_of_lt (show 240+n / 262144<256 by omega),Nat.mod_eq_of_lt (show 128+n % 64<256 by omega),Nat.mod_eq_of_lt (show 128+n / 64 % 64<256 by omega),Nat.mod_eq_of_lt (show 128+n / 4096 % 64<256 by omega)]
end
end Go.VM
namespace Go.VM
def Ok{α:Type} (x:Option α) (P:α→Prop):Prop:= ∃a,x=some a∧P a
section
variable{α β:Type}{P:α→Prop}{Q:β→Prop}
theorem Ok.ret{a:α} (h:P a):Ok (some a) P:=⟨a,rfl,h⟩
theorem Ok.bind{x:Option β}{f:β→Option α} (h:Ok x Q) (k: ∀b,Q b→Ok (f b) P):Ok (Option.bind x f) P:=by
  obtain⟨b,rfl,hb⟩:=h;exact k b hb
theorem Ok.grd{c:Prop} [Decidable c]{x:Option α} (hc:c) (h:Ok x P):Ok (grd c x) P:=by rw[AZ hc];exact h
theorem Ok.meet (J:β→Prop){k:β→Option α}{body:(β→Option α)→Option α} (hk: ∀b,J b→Ok (k b) P) (hb: ∀k':β→Option α,(∀b,J b→Ok (k' b) P)→Ok (body k') P):Ok (Ab k body) P:=hb k hk
theorem Ok.letL{x:β}{f:β→Option α} (h:Ok (f x) P):Ok (letL x f) P:=h
theorem Ok.mono{x:Option α}{P':α→Prop} (h:Ok x P) (k: ∀a,P a→P' a):Ok x P':=by obtain⟨a,e,ha⟩:=h;exact⟨a,e,k a ha⟩
theorem Ok.eq{x:Option α}{a:α} (h:x=some a):Ok x (· =a):=⟨a,h,rfl⟩
theorem Ok.idx{l:List α}{i:Int} (h0:0≤i) (h1:i<l.length):Ok (idx l i) (fun x=>l[i.toNat]?=some x):=by
  have:i.toNat<l.length:=by omega
  exact⟨l[i.toNat],by simp[VM.idx,h0,List.getElem?_eq_getElem this],List.getElem?_eq_getElem this⟩
theorem Ok.sub{l:List α}{a b:Int} (h0:0≤a) (h1:a≤b) (h2:b≤l.length):Ok (sub l a b) (fun x=>x=(l.drop a.toNat).take (b.toNat-a.toNat)∧x.length=(b-a).toNat):=by
  refine⟨_,by simp[VM.sub,h0,h1,h2],rfl,?_⟩
  simp;omega
end
end Go.VM
namespace Go.VM
section
variable{N:Nat}
def DD (c:UInt8):Bool:=decide (c.toNat / 64=2)
def GY:List UInt8→Option (Nat×Nat)
  |[]=>none
  | a::t=>
    if a.toNat<128 then some (a.toNat,1)
    else if a.toNat / 32=6 then
      match t with
      |b::_=>if DD b=true∧128≤a.toNat % 32 * 64+b.toNat % 64 then some (a.toNat % 32 * 64+b.toNat % 64,2)else none
      |_=>none
    else if a.toNat / 16=14 then
      match t with
      |b::c::_=>if DD b=true∧DD c=true∧2048≤(a.toNat % 16 * 64+b.toNat % 64) * 64+c.toNat % 64∧DI (((a.toNat % 16 * 64+b.toNat % 64) * 64+c.toNat % 64:Nat))=true then some ((a.toNat % 16 * 64+b.toNat % 64) * 64+c.toNat % 64,3)else none
      |_=>none
    else if a.toNat / 8=30 then
      match t with
      |b::c::d::_=>if DD b=true∧DD c=true∧DD d=true∧65536≤((a.toNat % 8 * 64+b.toNat % 64) * 64+c.toNat % 64) * 64+d.toNat % 64∧DI ((((a.toNat % 8 * 64+b.toNat % 64) * 64+c.toNat % 64) * 64+d.toNat % 64:Nat))=true then some (((a.toNat % 8 * 64+b.toNat % 64) * 64+c.toNat % 64) * 64+d.toNat % 64,4)else none
      |_=>none
    else none
def Ha (i:Nat):Option (Nat×Nat)→Int×Int×Int
  |some (r,n)=>((r:Int),((i+n:Nat):Int),0)
  |none=>(0,0,7)
theorem KX{α:Type}{l t:List α}{x:α}{i j:Nat} (h:l.drop i=t) (hx:t[j]?=some x):idx l ((i+j:Nat):Int)=some x:=by
  rw[Ny,←List.getElem?_drop,h,hx]
theorem DC{α:Type}{l t:List α}{i:Nat} (h:l.drop i=t) (hi:i≤l.length):l.length=i+t.length:=by
  have:=congrArg List.length h
  simp at this;omega
section
variable{l t:List UInt8}{i:Nat}{k13:Int→Option (Int×Int×Int)}
theorem U3 (hi:i+10≤2^60){k m j:Nat}{r:Int} (h:m<j) (hj:j≤5):BM N l (i:Int) (m:Int) k13 (k+1) r (j:Int)=k13 r:=by
  rw[BM]
  have: ¬(j:Int)≤m:=by omega
  simp[this]
theorem Me (hi:i+10≤2^60){k m j r:Nat}{x:UInt8} (h:j≤m) (hm:m≤3) (ht:l.drop i=t) (hx:t[j]?=some x) (hr:r<2^50):
    BM N l (i:Int) (m:Int) k13 (k+1) (r:Int) (j:Int)=if DD x=true then BM N l (i:Int) (m:Int) k13 k ((r * 64+x.toNat % 64:Nat):Int) ((j+1:Nat):Int)else some (0,0,7):=by
  rw[BM]
  have h1:(j:Int)≤m:=by omega
  have h2:wr .i64 ((i:Int)+(j:Int))=((i+j:Nat):Int):=by rw[Ak (by omega)];simp
  have h3:wr .i64 ((j:Int)+1)=((j+1:Nat):Int):=by rw[Ak (by omega)];simp
  have h4:x.toNat % 64<64:=Nat.mod_lt _ (by decide)
  simp only[h1,decide_true,if_true,h2,h3]
  rw[KX ht hx,Option.bind_some,AM4,b63,Hw (by omega),AKT hr h4]
  have h5:((((x.toNat / 64 * 64:Nat):Int)) !=128)=!DD x:=by
    unfold DD
    by_cases hc:x.toNat / 64=2
    · rw[hc];rfl
    · have: ¬((x.toNat / 64 * 64:Nat):Int)=128:=by omega
      simp only[hc,decide_false,Bool.not_false,bne_iff_ne,ne_eq];exact this
  rw[h5]
  cases DD x<;>simp
theorem AM0:idx Dv 0=some (Utf8textForm.mk 0 127 0):=rfl
theorem AMt:idx Dv 1=some (Utf8textForm.mk 192 31 128):=rfl
theorem ANI:idx Dv 2=some (Utf8textForm.mk 224 15 2048):=rfl
theorem AM5:idx Dv 3=some (Utf8textForm.mk 240 7 65536):=rfl
def ADy (i m least r:Nat):Int×Int×Int:=if least≤r∧DI (r:Int)=true then((r:Int),((i+m:Nat):Int),0)else(0,0,7)
theorem AGy (hN:5≤N) (hi:i<l.length) (hb:l.length+10≤2^60):GX N l (i:Int)=some (Ha i (GY (l.drop i))):=by
  obtain⟨M,rfl⟩: ∃M,N=M+5:=⟨N-5,by omega⟩
  unfold GX
  have c1: ¬((i:Int)<0):=by omega
  have c2: ¬((i:Int)≥(l.length:Int)):=by omega
  simp only[AR,c1,c2,decide_false,Bool.false_eq_true,if_false]
  rw[AZ (by decide)]
  obtain⟨t,ht⟩: ∃t,l.drop i=t:=⟨_,rfl⟩
  have hl:=DC ht (by omega)
  cases t with
  |nil=>simp at hl;omega
  | cons a t=>
    have ha:idx l (i:Int)=some a:=by
      have:=KX (j:=0) ht rfl
      simpa using this
    have hat:=a.toNat_lt
    simp only[List.length_cons]at hl
    have hw:wr .i64 (wr .i64 ((l.length:Int)-(i:Int))-1)=((t.length:Nat):Int):=by
      rw[Ak (n:=(l.length:Int)-(i:Int)) (by omega),Ak (by omega)];omega
    have he: ∀m:Nat,m≤3→wr .i64 (wr .i64 ((i:Int)+(m:Int))+1)=((i+(m+1):Nat):Int):=by
      intro m hm
      rw[Ak (n:=(i:Int)+(m:Int)) (by omega),Ak (by omega)];omega
    have fin: ∀(m least r:Nat),m≤3→(if decide ((r:Int)<(least:Int))=true then(some (0,0,7):Option (Int×Int×Int))else Option.bind (Fw (M+5) (r:Int)) fun y22=>if(!y22)=true then some (0,0,7)else some ((r:Int),wr .i64 (wr .i64 ((i:Int)+(m:Int))+1),0))=some (ADy i (m+1) least r):=by
      intro m least r hm
      rw[ADz,Option.bind_some,he m hm]
      unfold ADy
      by_cases h1:least≤r
      · have: ¬(r:Int)<least:=by omega
        cases hp:DI (r:Int)<;>simp[h1,this,hp]
      · have:(r:Int)<least:=by omega
        simp[h1,this]
    rw[ht]
    show Bw (M+5) l (i:Int) _ 4 0=_
    rw[Bw,AM0,Option.bind_some,ha,Option.bind_some,AMN,hw]
    unfold GY
    by_cases h1:a.toNat<128
    · have e1:((a.toNat / 128 * 128:Nat):Int)=0:=by omega
      have e2: ¬((t.length:Int)<0):=by omega
      simp only[e1,bne_self_eq_false,Bool.false_eq_true,if_false,e2,decide_false,AR,h1,if_true]
      rw[AM8,Nat.mod_eq_of_lt h1,Hw (by omega)]
      rw[show BM (M+5) l (i:Int) 0=BM (M+5) l (i:Int) ((0:Nat):Int)from rfl,show(1:Int)=((1:Nat):Int)from rfl,U3 (by omega) (by omega) (by omega)]
      have:=fin 0 0 a.toNat (by omega)
      rw[show((0:Nat):Int)=0 from rfl]at this
      rw[show((1:Nat):Int)=1 from rfl,this]
      have hp:DI (a.toNat:Int)=true:=by simp[DI];omega
      simp[ADy,hp,Ha]
    · have e1 : (((a.toNat / 128 * 128:Nat):Int) !=0)=true:=by
        have: ¬((a.toNat / 128 * 128:Nat):Int)=0:=by omega
        simpa using this
      simp only[e1,if_true,h1,if_false]
      rw[show(0:Int)+1=1 from rfl,Bw,AMt,Option.bind_some,ha,Option.bind_some,AMx,hw]
      by_cases h2:a.toNat / 32=6
      · rw [h2]
        simp only[show(((6 * 32:Nat):Int) !=192)=false from rfl,Bool.false_eq_true,if_false,if_true]
        cases t with
        |nil=>simp[Ha]
        | cons b t=>
          have e2: ¬((((b::t).length:Nat):Int)<1):=by simp only[List.length_cons];omega
          simp only[e2,decide_false,Bool.false_eq_true,if_false,AR]
          rw[b31,Hw (by omega)]
          rw[show BM (M+5) l (i:Int) 1=BM (M+5) l (i:Int) ((1:Nat):Int)from rfl,show(1:Int)=((1:Nat):Int)from rfl]
          rw[Me (by omega) (Nat.le_refl _) (by omega) ht rfl (by omega)]
          cases hc:DD b with
          |false=>simp[hc,Ha]
          | true=>
            simp only[if_true,true_and]
            rw[U3 (by omega) (by omega) (by omega)]
            have:=fin 1 128 (a.toNat % 32 * 64+b.toNat % 64) (by omega)
            rw[show((1:Nat):Int)=1 from rfl]at this
            rw[show((1:Nat):Int)=1 from rfl]
            refine this.trans ?_
            have hp:DI ((a.toNat % 32 * 64+b.toNat % 64:Nat):Int)=true:=by
              have:a.toNat % 32<32:=Nat.mod_lt _ (by decide)
              have:b.toNat % 64<64:=Nat.mod_lt _ (by decide)
              simp[DI];omega
            simp only[ADy,hp,and_true]
            split<;>simp[Ha]
      · have e1 : (((a.toNat / 32 * 32:Nat):Int) !=192)=true:=by
          have: ¬((a.toNat / 32 * 32:Nat):Int)=192:=by omega
          simpa using this
        simp only[e1,if_true,h2,if_false]
        rw[show(1:Int)+1=2 from rfl,Bw,ANI,Option.bind_some,ha,Option.bind_some,AM9,hw]
        by_cases h3:a.toNat / 16=14
        · rw [h3]
          simp only[show(((14 * 16:Nat):Int) !=224)=false from rfl,Bool.false_eq_true,if_false,if_true]
          match t,ht,hl with
          |[],ht,hl=>simp[Ha]
          |[b],ht,hl=>simp[Ha]
          | b::c::t,ht,hl=>
            have e2: ¬((((b::c::t).length:Nat):Int)<2):=by simp only[List.length_cons];omega
            simp only[e2,decide_false,Bool.false_eq_true,if_false,AR]
            rw[b15,Hw (by omega)]
            rw[show BM (M+5) l (i:Int) 2=BM (M+5) l (i:Int) ((2:Nat):Int)from rfl,show(1:Int)=((1:Nat):Int)from rfl]
            rw[Me (by omega) (by omega) (by omega) ht rfl (by omega)]
            cases hc:DD b with
            |false=>simp[hc,Ha]
            | true=>
              simp only[if_true,true_and]
              rw[Me (by omega) (by omega) (by omega) ht rfl (by omega)]
              cases hc2:DD c with
              |false=>simp[hc2,Ha]
              | true=>
                simp only[if_true,true_and]
                rw[U3 (by omega) (by omega) (by omega)]
                have:=fin 2 2048 ((a.toNat % 16 * 64+b.toNat % 64) * 64+c.toNat % 64) (by omega)
                rw[show((2:Nat):Int)=2 from rfl]at this
                refine this.trans ?_
                simp only[ADy]
                split<;>simp[Ha]
        · have e1:(((a.toNat / 16 * 16:Nat):Int) !=224)=true:=by
            have: ¬((a.toNat / 16 * 16:Nat):Int)=224:=by omega
            simpa using this
          simp only[e1,if_true,h3,if_false]
          rw[show(2:Int)+1=3 from rfl,Bw,AM5,Option.bind_some,ha,Option.bind_some,bn7,hw]
          by_cases h4:a.toNat / 8=30
          · rw [h4]
            simp only[show(((30 * 8:Nat):Int) !=240)=false from rfl,Bool.false_eq_true,if_false,if_true]
            match t,ht,hl with
            |[],ht,hl=>simp[Ha]
            |[b],ht,hl=>simp[Ha]
            |[b,c],ht,hl=>simp[Ha]
            | b::c::d::t,ht,hl=>
              have e2: ¬((((b::c::d::t).length:Nat):Int)<3):=by simp only[List.length_cons];omega
              simp only[e2,decide_false,Bool.false_eq_true,if_false,AR]
              rw[b7,Hw (by omega)]
              rw[show BM (M+5) l (i:Int) 3=BM (M+5) l (i:Int) ((3:Nat):Int)from rfl,show(1:Int)=((1:Nat):Int)from rfl]
              rw[Me (by omega) (by omega) (by omega) ht rfl (by omega)]
              cases hc:DD b with
              |false=>simp[hc,Ha]
              | true=>
                simp only[if_true,true_and]
                rw[Me (by omega) (by omega) (by omega) ht rfl (by omega)]
                cases hc2:DD c with
                |false=>simp[hc2,Ha]
                | true=>
                  simp only[if_true,true_and]
                  rw[Me (by omega) (by omega) (by omega) ht rfl (by omega)]
                  cases hc3:DD d with
                  |false=>simp[hc3,Ha]
                  | true=>
                    simp only[if_true,true_and]
                    rw[U3 (by omega) (by omega) (by omega)]
                    have:=fin 3 65536 (((a.toNat % 8 * 64+b.toNat % 64) * 64+c.toNat % 64) * 64+d.toNat % 64) (by omega)
                    rw[show((3:Nat):Int)=3 from rfl]at this
                    refine this.trans ?_
                    simp only[ADy]
                    split<;>simp[Ha]
          · have e1:(((a.toNat / 8 * 8:Nat):Int) !=240)=true:=by
              have: ¬((a.toNat / 8 * 8:Nat):Int)=240:=by omega
              simpa using this
            simp only[e1,if_true,h4,if_false]
            rw[Bw]
            rfl
end
end
end Go.VM
namespace Go.VM
section
variable{N:Nat}
theorem ANF{a:Nat} (h:a<256):Dc .i64 (a:Int) 31=((a % 32:Nat):Int):=Nq 5 (by omega) (by decide)
theorem AMu{a:Nat} (h:a<256):Dc .i64 (a:Int) 15=((a % 16:Nat):Int):=Nq 4 (by omega) (by decide)
theorem b7'{a:Nat} (h:a<256):Dc .i64 (a:Int) 7=((a % 8:Nat):Int):=Nq 3 (by omega) (by decide)
theorem Ot{x:List UInt8}{k4:Int→Option Int}{k j r:Nat}{c:UInt8} (hx:x[j]?=some c) (hr:r<2^50):
    Cq N x k4 (k+1) (j:Int) (r:Int)=Cq N x k4 k ((j+1:Nat):Int) ((r * 64+c.toNat % 64:Nat):Int):=by
  have hc:=c.toNat_lt
  rw[Cq,Ny,hx,Option.bind_some,IX,Hw (by omega),NK (by omega),AKT hr (Nat.mod_lt _ (by decide))]
  simp
def WL:List UInt8→Nat
  |[a]=>a.toNat
  |[a,b]=>a.toNat % 32 * 64+b.toNat % 64
  |[a,b,c]=>(a.toNat % 16 * 64+b.toNat % 64) * 64+c.toNat % 64
  |[a,b,c,d]=>((a.toNat % 8 * 64+b.toNat % 64) * 64+c.toNat % 64) * 64+d.toNat % 64
  |_=>0
theorem AC4 (x:List UInt8) (h0:0<x.length) (h4:x.length≤4):F8 N x=some (WL x:Int):=by
  match x,h0,h4 with
  | [a],_,_=>
    have ha:=a.toNat_lt
    unfold F8
    rw[show((([a]:List UInt8).length:Int)==1)=true from rfl,if_pos rfl,show idx [a] 0=some a from rfl,Option.bind_some,IX,Hw (by omega)]
    rfl
  | [a,b],_,_=>
    have ha:=a.toNat_lt
    unfold F8
    rw[show((([a,b]:List UInt8).length:Int)==1)=false from rfl,if_neg (by decide),show idx [a,b] 0=some a from rfl,Option.bind_some,IX]
    rw[AZ (by show¬((5:Int)<0);decide),AR,AZ (by show(-4611686018427387904:Int)≤1∧(2:Int)≤4611686018427387904;decide),Hw (by omega)]
    rw[show wr .i64 (JE .i64 1 (wr .i64 (7-(([a,b]:List UInt8).length:Int)))-1)=31 from rfl,ANF (by omega)]
    rw[show((([a,b]:List UInt8).length:Int)-1).toNat=0+1 from rfl,show(1:Int)=((1:Nat):Int)from rfl]
    rw[Ot (c:=b) rfl (by omega),Cq]
    rfl
  | [a,b,c],_,_=>
    have ha:=a.toNat_lt
    unfold F8
    rw[show((([a,b,c]:List UInt8).length:Int)==1)=false from rfl,if_neg (by decide),show idx [a,b,c] 0=some a from rfl,Option.bind_some,IX]
    rw[AZ (by show¬((4:Int)<0);decide),AR,AZ (by show(-4611686018427387904:Int)≤1∧(3:Int)≤4611686018427387904;decide),Hw (by omega)]
    rw[show wr .i64 (JE .i64 1 (wr .i64 (7-(([a,b,c]:List UInt8).length:Int)))-1)=15 from rfl,AMu (by omega)]
    rw[show((([a,b,c]:List UInt8).length:Int)-1).toNat=0+1+1 from rfl,show(1:Int)=((1:Nat):Int)from rfl]
    rw[Ot (c:=b) rfl (by omega),Ot (c:=c) rfl (by omega),Cq]
    rfl
  | [a,b,c,d],_,_=>
    have ha:=a.toNat_lt
    unfold F8
    rw[show((([a,b,c,d]:List UInt8).length:Int)==1)=false from rfl,if_neg (by decide),show idx [a,b,c,d] 0=some a from rfl,Option.bind_some,IX]
    rw[AZ (by show¬((3:Int)<0);decide),AR,AZ (by show(-4611686018427387904:Int)≤1∧(4:Int)≤4611686018427387904;decide),Hw (by omega)]
    rw[show wr .i64 (JE .i64 1 (wr .i64 (7-(([a,b,c,d]:List UInt8).length:Int)))-1)=7 from rfl,b7' (by omega)]
    rw[show((([a,b,c,d]:List UInt8).length:Int)-1).toNat=0+1+1+1 from rfl,show(1:Int)=((1:Nat):Int)from rfl]
    rw[Ot (c:=b) rfl (by omega),Ot (c:=c) rfl (by omega),Ot (c:=d) rfl (by omega),Cq]
    rfl
def Sd (x:List UInt8):Bool:=DI (WL x:Int)&&(KU (WL x)==x)
theorem P5{l:List UInt8}{i j k:Nat}{k6:Unit→Option (Int×Int×Int)} (hi:i+10≤2^60) (h1:1≤j) (h4:j≤4):
    DW N l (i:Int) k6 (k+1) (j:Int)=if i+j≤l.length then(if Sd ((l.drop i).take j)=true then some ((WL ((l.drop i).take j):Int),((i+j:Nat):Int),0)else DW N l (i:Int) k6 k ((j+1:Nat):Int))else k6 ():=by
  rw[DW,AR]
  have e1:(j:Int)≤4:=by omega
  have e2:wr .i64 ((i:Int)+(j:Int))=((i+j:Nat):Int):=by rw[Ak (by omega)];simp
  have e3:wr .i64 ((j:Int)+1)=((j+1:Nat):Int):=by rw[Ak (by omega)];simp
  simp only[e1,decide_true,if_true,e2,e3]
  by_cases h:i+j≤l.length
  · have h':((i+j:Nat):Int)≤(l.length:Int):=by omega
    simp only[h,h',decide_true,if_true]
    rw[FE l i (i+j) (by omega) h,Option.bind_some,Nat.add_sub_cancel_left]
    have hl:((l.drop i).take j).length=j:=by simp;omega
    rw[AC4 _ (by omega) (by omega),Option.bind_some,NN,Option.bind_some,AR]
    unfold Sd encR
    cases hp:DI (WL ((l.drop i).take j):Int)
    · simp
    · simp only[if_true,Int.toNat_natCast,Bool.true_and,beq_self_eq_true]
  · have h': ¬((i+j:Nat):Int)≤(l.length:Int):=by omega
    simp only[h,h',decide_false,if_false,Bool.false_eq_true]
theorem YG (a:UInt8):Sd [a]=true↔a.toNat<128:=by
  have ha:=a.toNat_lt
  have hp:DI (a.toNat:Int)=true:=by simp[DI];omega
  simp only[Sd,WL,hp,Bool.true_and,KU]
  by_cases h:a.toNat<128
  · simp[h]
  · have:a.toNat<2048:=by omega
    simp[h,this]
theorem Nr{n:Nat}{a:UInt8} (h:n<256):UInt8.ofNat n=a↔n=a.toNat:=by
  rw[AMP,toNat_ofNat h]
theorem QP (b:UInt8):DD b=true↔128+b.toNat % 64=b.toNat:=by
  have:=b.toNat_lt
  simp only[DD,decide_eq_true_eq];omega
theorem hit2 (a b:UInt8):Sd [a,b]=true↔a.toNat / 32=6∧DD b=true∧128≤a.toNat % 32 * 64+b.toNat % 64:=by
  have ha:=a.toNat_lt
  have hb:=b.toNat_lt
  have hp:DI ((a.toNat % 32 * 64+b.toNat % 64:Nat):Int)=true:=by simp[DI];omega
  simp only[Sd,WL,hp,Bool.true_and,KU,QP]
  by_cases h:a.toNat % 32 * 64+b.toNat % 64<128
  · simp[h]
  · have h2:a.toNat % 32 * 64+b.toNat % 64<2048:=by omega
    simp only[h,h2,if_true,if_false,beq_iff_eq,List.cons.injEq,and_true]
    rw[Nr (by omega),Nr (by omega)]
    omega
theorem hit3 (a b c:UInt8):Sd [a,b,c]=true↔a.toNat / 16=14∧DD b=true∧DD c=true∧2048≤(a.toNat % 16 * 64+b.toNat % 64) * 64+c.toNat % 64∧DI (((a.toNat % 16 * 64+b.toNat % 64) * 64+c.toNat % 64:Nat))=true:=by
  have ha:=a.toNat_lt
  have hb:=b.toNat_lt
  have hc:=c.toNat_lt
  simp only[Sd,WL,KU,QP,Bool.and_eq_true]
  by_cases h0:(a.toNat % 16 * 64+b.toNat % 64) * 64+c.toNat % 64<128
  · simp[h0];omega
  by_cases h1:(a.toNat % 16 * 64+b.toNat % 64) * 64+c.toNat % 64<2048
  · simp[h0,h1];omega
  · have h2:(a.toNat % 16 * 64+b.toNat % 64) * 64+c.toNat % 64<65536:=by omega
    simp only[h0,h1,h2,if_true,if_false,beq_iff_eq,List.cons.injEq,and_true]
    rw[Nr (by omega),Nr (by omega),Nr (by omega)]
    constructor
    · rintro⟨hp,h⟩;exact⟨by omega,by omega,by omega,by omega,hp⟩
    · rintro⟨h,h',h'',_,hp⟩;exact⟨hp,by omega,by omega,by omega⟩
theorem AFf (a b c d:UInt8):Sd [a,b,c,d]=true↔a.toNat / 8=30∧DD b=true∧DD c=true∧DD d=true∧65536≤((a.toNat % 8 * 64+b.toNat % 64) * 64+c.toNat % 64) * 64+d.toNat % 64∧DI ((((a.toNat % 8 * 64+b.toNat % 64) * 64+c.toNat % 64) * 64+d.toNat % 64:Nat))=true:=by
  have ha:=a.toNat_lt
  have hb:=b.toNat_lt
  have hc:=c.toNat_lt
  have hd:=d.toNat_lt
  simp only[Sd,WL,KU,QP,Bool.and_eq_true]
  by_cases h0:((a.toNat % 8 * 64+b.toNat % 64) * 64+c.toNat % 64) * 64+d.toNat % 64<128
  · simp[h0];omega
  by_cases h1:((a.toNat % 8 * 64+b.toNat % 64) * 64+c.toNat % 64) * 64+d.toNat % 64<2048
  · simp[h0,h1];omega
  by_cases h2:((a.toNat % 8 * 64+b.toNat % 64) * 64+c.toNat % 64) * 64+d.toNat % 64<65536
  · simp[h0,h1,h2];omega
  · simp only[h0,h1,h2,if_true,if_false,beq_iff_eq,List.cons.injEq,and_true]
    rw[Nr (by omega),Nr (by omega),Nr (by omega),Nr (by omega)]
    constructor
    · rintro⟨hp,h⟩;exact⟨by omega,by omega,by omega,by omega,by omega,hp⟩
    · rintro⟨h,h',h'',h3,_,hp⟩;exact⟨hp,by omega,by omega,by omega,by omega⟩
theorem AIS{l:List UInt8}{i k:Nat}{k6:Unit→Option (Int×Int×Int)}:DW N l (i:Int) k6 (k+1) ((4+1:Nat):Int)=k6 ():=by
  rw[DW,AR];rfl
theorem Ef{b:Bool}{p:Prop} (h:b=true↔p) (k: ¬p):b=false:=by
  cases b
  · rfl
  · exact absurd (h.1 rfl) k
theorem AGK{l:List UInt8}{i:Nat} (hN:5≤N) (hi:i<l.length) (hb:l.length+10≤2^60):Ic N l (i:Int)=some (Ha i (GY (l.drop i))):=by
  obtain⟨M,rfl⟩: ∃M,N=M+1+1+1+1+1:=⟨N-5,by omega⟩
  unfold Ic
  have c1: ¬((i:Int)<0):=by omega
  have c2: ¬((i:Int)≥(l.length:Int)):=by omega
  simp only[AR,c1,c2,decide_false,Bool.false_eq_true,if_false]
  rw[show(1:Int)=((1:Nat):Int)from rfl,P5 (by omega) (by omega) (by omega),P5 (by omega) (by omega) (by omega),P5 (by omega) (by omega) (by omega),P5 (by omega) (by omega) (by omega),AIS]
  obtain⟨t,ht⟩: ∃t,l.drop i=t:=⟨_,rfl⟩
  have hl:=DC ht (by omega)
  rw[ht]
  match t,hl with
  |[],hl=>simp at hl;omega
  | [a],hl=>
    simp only[List.length_cons,List.length_nil]at hl
    have e1:i+1≤l.length:=by omega
    have e2: ¬i+(1+1)≤l.length:=by omega
    simp only[e1,e2,if_true,if_false,List.take]
    simp only[GY]
    by_cases h1:a.toNat<128
    · rw[if_pos ((YG a).2 h1),if_pos h1];rfl
    · rw[Ef (YG a) h1]
      simp[h1,Ha]
      repeat' split
      all_goals rfl
  | [a, b],hl=>
    simp only[List.length_cons,List.length_nil]at hl
    have e1:i+1≤l.length:=by omega
    have e2:i+(1+1)≤l.length:=by omega
    have e3: ¬i+(1+1+1)≤l.length:=by omega
    simp only[e1,e2,e3,if_true,if_false,List.take]
    simp only[GY]
    by_cases h1:a.toNat<128
    · rw[if_pos ((YG a).2 h1),if_pos h1];rfl
    · rw[Ef (YG a) h1]
      simp only[Bool.false_eq_true,if_false,h1]
      by_cases h2:a.toNat / 32=6
      · simp only[h2,if_true]
        by_cases k:DD b=true∧128≤a.toNat % 32 * 64+b.toNat % 64
        · rw[if_pos ((hit2 a b).2 ⟨h2,k⟩),if_pos k];rfl
        · rw[Ef (hit2 a b) (fun h=>k h.2),if_neg k];rfl
      · rw[Ef (hit2 a b) (fun h=>h2 h.1)]
        simp only[Bool.false_eq_true,if_false,h2,ite_self,Ha]
  | [a, b,c],hl=>
    simp only[List.length_cons,List.length_nil]at hl
    have e1:i+1≤l.length:=by omega
    have e2:i+(1+1)≤l.length:=by omega
    have e3:i+(1+1+1)≤l.length:=by omega
    have e4: ¬i+(1+1+1+1)≤l.length:=by omega
    simp only[e1,e2,e3,e4,if_true,if_false,List.take]
    simp only[GY]
    by_cases h1:a.toNat<128
    · rw[if_pos ((YG a).2 h1),if_pos h1];rfl
    · rw [Ef (YG a) h1]
      simp only[Bool.false_eq_true,if_false,h1]
      by_cases h2:a.toNat / 32=6
      · have h3: ¬a.toNat / 16=14:=by omega
        simp only[h2,if_true,Ef (hit3 a b c) (fun h=>h3 h.1),Bool.false_eq_true,if_false]
        by_cases k:DD b=true∧128≤a.toNat % 32 * 64+b.toNat % 64
        · rw[if_pos ((hit2 a b).2 ⟨h2,k⟩),if_pos k];rfl
        · rw[Ef (hit2 a b) (fun h=>k h.2),if_neg k];rfl
      · rw[Ef (hit2 a b) (fun h=>h2 h.1)]
        simp only[Bool.false_eq_true,if_false,h2]
        by_cases h3:a.toNat / 16=14
        · simp only[h3,if_true]
          by_cases k:DD b=true∧DD c=true∧2048≤(a.toNat % 16 * 64+b.toNat % 64) * 64+c.toNat % 64∧DI (((a.toNat % 16 * 64+b.toNat % 64) * 64+c.toNat % 64:Nat))=true
          · rw[if_pos ((hit3 a b c).2 ⟨h3,k⟩),if_pos k];rfl
          · rw[if_neg (fun e=>k ((hit3 a b c).1 e).2),if_neg k];rfl
        · rw[Ef (hit3 a b c) (fun h=>h3 h.1)]
          simp only[Bool.false_eq_true,if_false,h3,ite_self,Ha]
  | a::b::c::d::t,hl=>
    simp only[List.length_cons]at hl
    have e1:i+1≤l.length:=by omega
    have e2:i+(1+1)≤l.length:=by omega
    have e3:i+(1+1+1)≤l.length:=by omega
    have e4:i+(1+1+1+1)≤l.length:=by omega
    rw[show List.take 1 (a::b::c::d::t)=[a]from rfl,show List.take (1+1) (a::b::c::d::t)=[a,b]from rfl,show List.take (1+1+1) (a::b::c::d::t)=[a,b,c]from rfl,show List.take (1+1+1+1) (a::b::c::d::t)=[a,b,c,d]from rfl]
    simp only[e1,e2,e3,e4,if_true,if_false]
    simp only[GY]
    by_cases h1:a.toNat<128
    · rw[if_pos ((YG a).2 h1),if_pos h1];rfl
    · rw [Ef (YG a) h1]
      simp only[Bool.false_eq_true,if_false,h1]
      by_cases h2:a.toNat / 32=6
      · have h3: ¬a.toNat / 16=14:=by omega
        have h4: ¬a.toNat / 8=30:=by omega
        simp only[h2,if_true,Ef (hit3 a b c) (fun h=>h3 h.1),Ef (AFf a b c d) (fun h=>h4 h.1),Bool.false_eq_true,if_false]
        by_cases k:DD b=true∧128≤a.toNat % 32 * 64+b.toNat % 64
        · rw[if_pos ((hit2 a b).2 ⟨h2,k⟩),if_pos k];rfl
        · rw[Ef (hit2 a b) (fun h=>k h.2),if_neg k];rfl
      · rw [Ef (hit2 a b) (fun h=>h2 h.1)]
        simp only[Bool.false_eq_true,if_false,h2]
        by_cases h3:a.toNat / 16=14
        · have h4: ¬a.toNat / 8=30:=by omega
          simp only[h3,if_true,Ef (AFf a b c d) (fun h=>h4 h.1),Bool.false_eq_true,if_false]
          by_cases k:DD b=true∧DD c=true∧2048≤(a.toNat % 16 * 64+b.toNat % 64) * 64+c.toNat % 64∧DI (((a.toNat % 16 * 64+b.toNat % 64) * 64+c.toNat % 64:Nat))=true
          · rw[if_pos ((hit3 a b c).2 ⟨h3,k⟩),if_pos k];rfl
          · rw[if_neg (fun e=>k ((hit3 a b c).1 e).2),if_neg k];rfl
        · rw[Ef (hit3 a b c) (fun h=>h3 h.1)]
          simp only[Bool.false_eq_true,if_false,h3]
          by_cases h4:a.toNat / 8=30
          · simp only[h4,if_true]
            by_cases k:DD b=true∧DD c=true∧DD d=true∧65536≤((a.toNat % 8 * 64+b.toNat % 64) * 64+c.toNat % 64) * 64+d.toNat % 64∧DI ((((a.toNat % 8 * 64+b.toNat % 64) * 64+c.toNat % 64) * 64+d.toNat % 64:Nat))=true
            · rw[if_pos ((AFf a b c d).2 ⟨h4,k⟩),if_pos k];rfl
            · rw[if_neg (fun e=>k ((AFf a b c d).1 e).2),if_neg k];rfl
          · rw[if_neg (fun e=>h4 ((AFf a b c d).1 e).1),if_neg h4];rfl
end
end Go.VM
namespace Go.VM
section
variable{N:Nat}
theorem FV{α:Type} [DecidableEq α]{f g:Nat→α} (h:(List.range 256).all (fun n=>decide (f n=g n))=true) (c:UInt8):f c.toNat=g c.toNat:=by
  have:=List.all_eq_true.1 h c.toNat (List.mem_range.2 c.toNat_lt)
  simpa using this
def Sq (n:Nat):Bool:=(decide (48≤n)&&decide (n≤57))||(decide (65≤n)&&decide (n≤70))||(decide (97≤n)&&decide (n≤102))
def K3 (c:UInt8):Bool:=Sq c.toNat
def FH (n:Nat):Nat:=if n≤57 then n-48 else if n≤70 then n-55 else n-87
theorem AB7 (c:UInt8) (h:K3 c=true):FH c.toNat<16:=by
  simp only[K3,Sq,Bool.or_eq_true,Bool.and_eq_true,decide_eq_true_eq]at h
  unfold FH;split<;>(try split)<;>omega
theorem AIg (c:UInt8):H9 N (Am c)=some (K3 c):=
  FV (f:=fun n=>H9 N (n:Int)) (g:=fun n=>some (Sq n)) (by kernel_rfl) c
theorem AH8 (c:UInt8) (h:K3 c=true):IJ N (Am c)=some ((FH c.toNat:Nat):Int):=by
  have:=FV (f:=fun n=>if Sq n=true then IJ N (n:Int)else none) (g:=fun n=>if Sq n=true then some ((FH n:Nat):Int)else none) (by kernel_rfl) c
  simp only[show Sq c.toNat=true from h,if_true]at this
  exact this
theorem AJA (c:UInt8) (h:K3 c=true):(if decide (Am c>57)=true then wr .u64 (wr .u64 (wr .u64 (Iy .u8 (Am c) 32)-97)+10)else wr .u64 (wr .u8 (Am c-48)))=((FH c.toNat:Nat):Int):=by
  have:=FV (f:=fun n=>if Sq n=true then(if decide ((n:Int)>57)=true then wr .u64 (wr .u64 (wr .u64 (Iy .u8 (n:Int) 32)-97)+10)else wr .u64 (wr .u8 ((n:Int)-48)))else 0) (g:=fun n=>if Sq n=true then((FH n:Nat):Int)else 0) (by kernel_rfl) c
  simp only[show Sq c.toNat=true from h,if_true]at this
  exact this
def RJ (n:Nat):List UInt8→Nat
  |[]=>n
  |c::l=>RJ (n * 16+FH c.toNat) l
theorem UX: ∀(l:List UInt8) (n:Nat),l.all K3=true→RJ n l<(n+1) * 16^l.length
  |[],n,_=>by simp[RJ]
  | c::l,n,h=>by
    simp only[List.all_cons,Bool.and_eq_true]at h
    have:=UX l (n * 16+FH c.toNat) h.2
    have hd:=AB7 c h.1
    rw[RJ,List.length_cons,Nat.pow_succ]
    have e:(n * 16+FH c.toNat+1) * 16^l.length≤(n+1) * 16 * 16^l.length:=Nat.mul_le_mul_right _ (by omega)
    have:(n+1) * 16 * 16^l.length=(n+1) * (16^l.length * 16):=by rw[Nat.mul_assoc,Nat.mul_comm 16]
    omega
theorem AKI (k2:Unit→Option (Int×Int)): ∀l:List UInt8,Dr N 16 k2 l=if l.all K3=true then k2 ()else some (0,1)
  |[]=>by rw[Dr];rfl
  | c::l=>by
    rw[Dr,AR,show((16:Int)==10)=false from rfl,show((16:Int)==16)=true from rfl]
    simp only[Bool.false_eq_true,if_false,if_true]
    rw[AIg,Option.bind_some,AKI k2 l]
    cases h:K3 c<;>simp[h]
theorem AKJ (k9:Int→Option (Int×Int)): ∀(l:List UInt8) (n:Nat),l.all K3=true→(n+1) * 16^l.length≤65536→Cn N 16 65535 k9 l (n:Int)=k9 ((RJ n l:Nat):Int)
  |[],n,_,_=>by rw[Cn];rfl
  | c::l,n,h,hn=>by
    simp only[List.all_cons,Bool.and_eq_true]at h
    have hd:=AB7 c h.1
    rw[List.length_cons,Nat.pow_succ]at hn
    have hp:1≤16^l.length:=Nat.one_le_pow _ _ (by decide)
    have e:(n * 16+FH c.toNat+1) * 16^l.length≤65536:=by
      have e1:(n * 16+FH c.toNat+1) * 16^l.length≤(n+1) * 16 * 16^l.length:=Nat.mul_le_mul_right _ (by omega)
      have e2:(n+1) * 16 * 16^l.length=(n+1) * (16^l.length * 16):=by rw[Nat.mul_assoc,Nat.mul_comm 16]
      omega
    have e3:n * 16+FH c.toNat+1≤65536:=by
      have:(n * 16+FH c.toNat+1) * 1≤(n * 16+FH c.toNat+1) * 16^l.length:=Nat.mul_le_mul_left _ hp
      omega
    rw[Cn]
    simp only[AR]
    have hv:=AJA c h.1
    have key: ∀v:Int,v=((FH c.toNat:Nat):Int)→(grd ((16:Int)≠0) (if decide ((n:Int)>wr .u64 ((65535:Int).tdiv 16))=true then if true=true then(some (0,4):Option (Int×Int))else Cn N 16 65535 k9 l (wr .u64 (wr .u64 ((n:Int) * 16)+v))else if decide (wr .u64 ((n:Int) * 16)>wr .u64 (65535-v))=true then if true=true then some (0,4)else Cn N 16 65535 k9 l (wr .u64 (wr .u64 ((n:Int) * 16)+v))else if decide (v>65535)=true then some (0,4)else Cn N 16 65535 k9 l (wr .u64 (wr .u64 ((n:Int) * 16)+v))))=k9 ((RJ (n * 16+FH c.toNat) l:Nat):Int):=by
      rintro v rfl
      rw[AZ (by decide),show wr .u64 ((65535:Int).tdiv 16)=4095 from rfl]
      have w1:wr .u64 ((n:Int) * 16)=((n * 16:Nat):Int):=by rw[Jt (by omega)];simp
      have w2:wr .u64 (((n * 16:Nat):Int)+((FH c.toNat:Nat):Int))=((n * 16+FH c.toNat:Nat):Int):=by rw[Jt (by omega)];simp
      have w3:wr .u64 (65535-((FH c.toNat:Nat):Int))=65535-((FH c.toNat:Nat):Int):=Jt (by omega)
      rw[w1,w2,w3]
      have c1: ¬((n:Int)>4095):=by omega
      have c2: ¬(((n * 16:Nat):Int)>65535-((FH c.toNat:Nat):Int)):=by omega
      have c3: ¬(((FH c.toNat:Nat):Int)>65535):=by omega
      simp only[c1,c2,c3,decide_false,Bool.false_eq_true,if_false]
      exact AKJ k9 l _ h.2 e
    rw[RJ]
    by_cases hc:Am c>57
    · simp only[hc,decide_true,if_true]at hv⊢
      exact key _ hv
    · simp only[hc,decide_false,Bool.false_eq_true,if_false]at hv⊢
      exact key _ hv
def ACZ (l:List UInt8):Int×Int:=if l.all K3=true then((RJ 0 l:Nat),0)else(0,1)
theorem AHU (l:List UInt8) (h0:l≠ []) (h4:l.length≤4):Kn N l 65535=some (ACZ l):=by
  unfold Kn J8 ACZ
  have e:(l==[])=false:=by simpa using h0
  rw[e]
  simp only[Bool.false_eq_true,if_false,AR]
  rw[AZ (by unfold Bf;omega),AZ (by unfold Bf;omega),AKI]
  by_cases h:l.all K3=true
  · rw[if_pos h,if_pos h,show(0:Int)=((0:Nat):Int)from rfl,AKJ _ l 0 h (by
      have:16^l.length≤16^4:=Nat.pow_le_pow_right (by decide) h4
      omega)]
    rfl
  · rw[if_neg h,if_neg h];rfl
end
end Go.VM
