import Derived.Test.YtooeobhihpkicaaGreatDoorVM2
import GoSem.Claim
import Derived.Test.YtooeobhihpkicaaGreatDoorDefs
import Derived.KernelRfl
set_option linter.unusedVariables false
set_option linter.unusedSimpArgs false
namespace Go.VM
theorem Hd{n:Nat} (h:n≤9223372036854775807):wr .i64 (n:Int)=n:=by
  simp[wr,IntKind.wrap,IntKind.bits,IntKind.signed];omega
theorem A8{n:Int} (h: -9223372036854775808≤n∧n≤9223372036854775807):wr .i64 n=n:=by
  simp[wr,IntKind.wrap,IntKind.bits,IntKind.signed];omega
theorem Mc{α:Type} (l:List α) (n:Nat):idx l (n:Int)=l[n]?:=by simp[idx]
theorem UY{α:Type} (pre suf:List α) (x:α):idx (pre++x::suf) (pre.length:Int)=some x:=by simp[idx]
theorem Zj{α:Type}{l pre suf:List α}{x:α} (h:l=pre++x::suf):idx l (pre.length:Int)=some x:=by rw[h];exact UY ..
theorem AK9{α:Type}{l pre suf:List α}{x:α} (h:l=pre++x::suf):decide ((pre.length:Int)<(l.length:Int))=true:=by
  subst h;simp only[decide_eq_true_eq,List.length_append,List.length_cons];omega
theorem Kk{α:Type} (pre:List α) (x:α):(pre.length:Int)+1=((pre++[x]).length:Int):=by simp
theorem Fh{α:Type} (l:List α) (a b:Nat) (h1:a≤b) (h2:b≤l.length):sub l (a:Int) (b:Int)=some ((l.drop a).take (b-a)):=by
  have h1':(a:Int)≤b:=by omega
  have h2':(b:Int)≤l.length:=by omega
  simp[sub,h1',h2']
theorem AU{α:Type}{c:Prop} [Decidable c]{x:Option α} (h:c):grd c x=x:=by simp[grd,h]
theorem JA{α:Type}{n:Nat}{x:Option α} (h:n≤4611686018427387904):grd (BD n) x=x:=AU h
theorem Ab{α β:Type} (k:α→Option β) (body:(α→Option β)→Option β):AY k body=body k:=rfl
end Go.VM
namespace Go.VM
theorem H9 (c:UInt8):Ae c=(c.toNat:Int):=rfl
theorem Ko (c:UInt8):Fz (Ae c)=c:=by simp[Fz,Ae]
theorem AK2{a b:UInt8}:a=b↔a.toNat=b.toNat:=⟨fun h=>by rw[h],UInt8.toNat_inj.1⟩
theorem toNat_ofNat{n:Nat} (h:n<256):(UInt8.ofNat n).toNat=n:=by simp;omega
theorem Gm{P:Nat→Prop} [∀n,Decidable (P n)] (h:(List.range 256).all (fun n=>decide (P n))=true) (c:UInt8):P c.toNat:=by
  have:=List.all_eq_true.1 h c.toNat (List.mem_range.2 c.toNat_lt)
  simpa using this
theorem AJE{n:Int} (h:0≤n∧n<256):wr .u8 n=n:=by
  simp[wr,IntKind.wrap,IntKind.bits,IntKind.signed];omega
theorem MP{n:Int} (h:0≤n∧n<18446744073709551616):wr .u64 n=n:=by
  simp[wr,IntKind.wrap,IntKind.bits,IntKind.signed];omega
theorem Pw{x:Nat} (h:x<2^63):(BitVec.ofInt 64 (x:Int)).toNat=x:=by
  rw[BitVec.toNat_ofInt];simp;omega
theorem AKX{x y:Nat} (hx:x<2^62) (hy:y<2^62):JY .i64 x y=((x|||y:Nat):Int):=by
  have h:x|||y<2^62:=Nat.or_lt_two_pow hx hy
  show IntKind.i64.wrap (((BitVec.ofInt 64 (x:Int)|||BitVec.ofInt 64 (y:Int):BitVec 64).toNat:Nat):Int)=_
  rw[BitVec.toNat_or,Pw (by omega),Pw (by omega)]
  simp[IntKind.wrap,IntKind.bits,IntKind.signed];omega
theorem AIP{x y:Nat} (hx:x<2^62) (hy:y<2^62):DT .i64 x y=((x&&&y:Nat):Int):=by
  have h:x&&&y<2^62:=Nat.and_lt_two_pow _ hy
  show IntKind.i64.wrap (((BitVec.ofInt 64 (x:Int)&&&BitVec.ofInt 64 (y:Int):BitVec 64).toNat:Nat):Int)=_
  rw[BitVec.toNat_and,Pw (by omega),Pw (by omega)]
  simp[IntKind.wrap,IntKind.bits,IntKind.signed];omega
theorem AKl{q y:Nat} (k:Nat) (h:y<2^k):(q * 2^k)|||y=q * 2^k+y:=by
  rw[←Nat.shiftLeft_eq,Nat.shiftLeft_add_eq_or_of_lt h]
theorem Ny{q y:Nat} (k:Nat) (h:y<2^k) (hx:q * 2^k<2^62) (hy:y<2^62):JY .i64 ((q * 2^k:Nat):Int) (y:Int)=((q * 2^k+y:Nat):Int):=by
  rw[AKX hx hy,AKl k h]
theorem Nj{x:Nat} (k:Nat) (hx:x<2^62) (hk:2^k≤2^61):DT .i64 (x:Int) ((2^k-1:Nat):Int)=((x % 2^k:Nat):Int):=by
  have h1:1≤2^k:=Nat.one_le_two_pow
  rw[AIP hx (by omega),Nat.and_two_pow_sub_one_eq_mod]
theorem NL{x:Nat} (hx:x<2^62):DT .i64 (x:Int) 63=((x % 64:Nat):Int):=Nj 6 hx (by decide)
theorem Uj{x k:Nat} (h:k≤64):JS .i64 (x:Int) (k:Int)=((x / 2^k:Nat):Int):=by
  simp only[JS,IntKind.bits,Int.toNat_natCast]
  rw[Nat.min_eq_left h,Int.fdiv_eq_ediv_of_nonneg]
  · simp
  · exact Int.le_of_lt (Int.pow_pos (by decide))
theorem AIO{x k:Nat} (h:k≤64) (hx:x * 2^k<2^63):JL .i64 (x:Int) (k:Int)=((x * 2^k:Nat):Int):=by
  simp only[JL,IntKind.bits,Int.toNat_natCast]
  rw[Nat.min_eq_left h]
  have:(x:Int) * 2^k=((x * 2^k:Nat):Int):=by simp
  rw[this]
  exact Hd (n:=x * 2^k) (by omega)
theorem AL1{x:Nat}:JS .i64 (x:Int) 6=((x / 64:Nat):Int):=Uj (k:=6) (by decide)
theorem AKt{x:Nat}:JS .i64 (x:Int) 12=((x / 4096:Nat):Int):=Uj (k:=12) (by decide)
theorem AKy{x:Nat}:JS .i64 (x:Int) 18=((x / 262144:Nat):Int):=Uj (k:=18) (by decide)
theorem ALo{x:Nat} (h:x<2^50):JL .i64 (x:Int) 6=((x * 64:Nat):Int):=AIO (k:=6) (by decide) (by omega)
theorem AI6{x y:Nat} (h:x<2^50) (hy:y<64):JY .i64 (JL .i64 (x:Int) 6) (y:Int)=((x * 64+y:Nat):Int):=by
  rw[ALo h];exact Ny 6 hy (by omega) (by omega)
theorem AKR{y:Nat} (hy:y<64):JY .i64 192 (y:Int)=((192+y:Nat):Int):=Ny (q:=3) 6 hy (by decide) (by omega)
theorem OC{y:Nat} (hy:y<64):JY .i64 128 (y:Int)=((128+y:Nat):Int):=Ny (q:=2) 6 hy (by decide) (by omega)
theorem AKY{y:Nat} (hy:y<32):JY .i64 224 (y:Int)=((224+y:Nat):Int):=Ny (q:=7) 5 hy (by decide) (by omega)
theorem AJZ{y:Nat} (hy:y<16):JY .i64 240 (y:Int)=((240+y:Nat):Int):=Ny (q:=15) 4 hy (by decide) (by omega)
theorem NB{n:Nat}:wr .u8 (n:Int)=((n % 256:Nat):Int):=by
  simp[wr,IntKind.wrap,IntKind.bits,IntKind.signed]
theorem ABG{n:Nat}:Fz (n:Int)=UInt8.ofNat n:=by simp[Fz]
theorem Fw:(List.range 256).all (fun n=>decide (
    G5 .u8 (n:Int) 127=((n / 128 * 128:Nat):Int)∧G5 .u8 (n:Int) 31=((n / 32 * 32:Nat):Int)∧G5 .u8 (n:Int) 15=((n / 16 * 16:Nat):Int)∧G5 .u8 (n:Int) 7=((n / 8 * 8:Nat):Int)∧
    DT .u8 (n:Int) 127=((n % 128:Nat):Int)∧DT .u8 (n:Int) 31=((n % 32:Nat):Int)∧DT .u8 (n:Int) 15=((n % 16:Nat):Int)∧DT .u8 (n:Int) 7=((n % 8:Nat):Int)∧
    DT .u8 (n:Int) 192=((n / 64 * 64:Nat):Int)∧DT .u8 (n:Int) 63=((n % 64:Nat):Int)))=true:=by decide+kernel
theorem AK3 (c:UInt8):G5 .u8 (Ae c) 127=((c.toNat / 128 * 128:Nat):Int):=(Gm Fw c).1
theorem ALz (c:UInt8):G5 .u8 (Ae c) 31=((c.toNat / 32 * 32:Nat):Int):=(Gm Fw c).2.1
theorem ALp (c:UInt8):G5 .u8 (Ae c) 15=((c.toNat / 16 * 16:Nat):Int):=(Gm Fw c).2.2.1
theorem bn7 (c:UInt8):G5 .u8 (Ae c) 7=((c.toNat / 8 * 8:Nat):Int):=(Gm Fw c).2.2.2.1
theorem AL2 (c:UInt8):DT .u8 (Ae c) 127=((c.toNat % 128:Nat):Int):=(Gm Fw c).2.2.2.2.1
theorem b31 (c:UInt8):DT .u8 (Ae c) 31=((c.toNat % 32:Nat):Int):=(Gm Fw c).2.2.2.2.2.1
theorem b15 (c:UInt8):DT .u8 (Ae c) 15=((c.toNat % 16:Nat):Int):=(Gm Fw c).2.2.2.2.2.2.1
theorem b7 (c:UInt8):DT .u8 (Ae c) 7=((c.toNat % 8:Nat):Int):=(Gm Fw c).2.2.2.2.2.2.2.1
theorem ALc (c:UInt8):DT .u8 (Ae c) 192=((c.toNat / 64 * 64:Nat):Int):=(Gm Fw c).2.2.2.2.2.2.2.2.1
theorem b63 (c:UInt8):DT .u8 (Ae c) 63=((c.toNat % 64:Nat):Int):=(Gm Fw c).2.2.2.2.2.2.2.2.2
end Go.VM
namespace Go.VM
section
variable{N:Nat}
def EM (r:Int):Bool:=decide (0≤r)&&(decide (r≤1114111)&&(decide (r<55296)||decide (r>57343)))
theorem AB7{r:Int} (h:EM r=true):0≤r∧r≤1114111∧(r<55296∨r>57343):=by
  simpa[EM]using h
theorem AB4 (r:Int):JO N r=some (EM r):=by
  unfold JO EM
  by_cases h1:r≥0<;>by_cases h2:r≤1114111<;>by_cases h3:r<55296<;>simp[h1,h2,h3]
theorem ABz (r:Int):F7 N r=some (EM r):=by
  unfold F7 EM
  by_cases h1:r≥0<;>by_cases h2:r≤1114111<;>by_cases h3:r<55296<;>simp[h1,h2,h3]
def AAE (r:Nat):List UInt8:=
  if r<128 then [.ofNat r]
  else if r<2048 then [.ofNat (192+r / 64),.ofNat (128+r % 64)]
  else if r<65536 then [.ofNat (224+r / 4096),.ofNat (128+r / 64 % 64),.ofNat (128+r % 64)]
  else [.ofNat (240+r / 262144),.ofNat (128+r / 4096 % 64),.ofNat (128+r / 64 % 64),.ofNat (128+r % 64)]
def encR (r:Int):List UInt8×Int:=if EM r=true then(AAE r.toNat,0)else([],4)
theorem AFJ (r:Int):GN N r=some (encR r):=by
  unfold GN encR
  rw[AB4,Option.bind_some]
  cases hp:EM r with
  |false=>rfl
  | true=>
    obtain⟨h0,h1,_⟩:=AB7 hp
    obtain⟨n,rfl⟩: ∃n:Nat,r=n:=⟨r.toNat,by omega⟩
    simp only[if_true,letL,Int.toNat_natCast,AAE,List.map_cons,List.map_nil,AL1,AKt,AKy]
    by_cases c1:n<128
    · have c1':(n:Int)<128:=by omega
      simp only[c1,c1',decide_true,if_true,NB,ABG,Nat.mod_eq_of_lt (show n<256 by omega)]
    · have c1': ¬(n:Int)<128:=by omega
      simp only[c1,c1',decide_false,if_false,Bool.false_eq_true]
      by_cases c2:n<2048
      · have c2':(n:Int)<2048:=by omega
        simp only[c2,c2',decide_true,if_true]
        rw[AKR (by omega),NL (by omega),OC (by omega)]
        simp only[NB,ABG,Nat.mod_eq_of_lt (show 192+n / 64<256 by omega),Nat.mod_eq_of_lt (show 128+n % 64<256 by omega)]
      · have c2': ¬(n:Int)<2048:=by omega
        simp only[c2,c2',decide_false,if_false,Bool.false_eq_true]
        by_cases c3:n<65536
        · have c3':(n:Int)<65536:=by omega
          simp only[c3,c3',decide_true,if_true]
          rw[AKY (by omega),NL (by omega),NL (by omega),OC (by omega),OC (by omega)]
          simp only[NB,ABG,Nat.mod_eq_of_lt (show 224+n / 4096<256 by omega),Nat.mod_eq_of_lt (show 128+n % 64<256 by omega),Nat.mod_eq_of_lt (show 128+n / 64 % 64<256 by omega)]
        · have c3': ¬(n:Int)<65536:=by omega
          simp only[c3,c3',decide_false,if_false,Bool.false_eq_true]
          rw[AJZ (by omega),NL (by omega),NL (by omega),NL (by omega),OC (by omega),OC (by omega),OC (by omega)]
          simp only[NB,ABG,Nat.mod_eq_of_lt (show 240+n / 262144<256 by omega),Nat.mod_eq_of_lt (show 128+n % 64<256 by omega),Nat.mod_eq_of_lt (show 128+n / 64 % 64<256 by omega),Nat.mod_eq_of_lt (show 128+n / 4096 % 64<256 by omega)]
end
end Go.VM
namespace Go.VM
def Ok{α:Type} (x:Option α) (P:α→Prop):Prop:= ∃a,x=some a∧P a
section
variable{α β:Type}{P:α→Prop}{Q:β→Prop}
theorem Ok.ret{a:α} (h:P a):Ok (some a) P:=⟨a,rfl,h⟩
theorem Ok.bind{x:Option β}{f:β→Option α} (h:Ok x Q) (k: ∀b,Q b→Ok (f b) P):Ok (Option.bind x f) P:=by
  obtain⟨b,rfl,hb⟩:=h;exact k b hb
theorem Ok.grd{c:Prop} [Decidable c]{x:Option α} (hc:c) (h:Ok x P):Ok (grd c x) P:=by rw[AU hc];exact h
theorem Ok.meet (J:β→Prop){k:β→Option α}{body:(β→Option α)→Option α} (hk: ∀b,J b→Ok (k b) P) (hb: ∀k':β→Option α,(∀b,J b→Ok (k' b) P)→Ok (body k') P):Ok (AY k body) P:=hb k hk
theorem Ok.letL{x:β}{f:β→Option α} (h:Ok (f x) P):Ok (letL x f) P:=h
theorem Ok.mono{x:Option α}{P':α→Prop} (h:Ok x P) (k: ∀a,P a→P' a):Ok x P':=by obtain⟨a,e,ha⟩:=h;exact⟨a,e,k a ha⟩
theorem Ok.eq{x:Option α}{a:α} (h:x=some a):Ok x (· =a):=⟨a,h,rfl⟩
theorem Ok.idx{l:List α}{i:Int} (h0:0≤i) (h1:i<l.length):Ok (idx l i) (fun x=>l[i.toNat]?=some x):=by
  have:i.toNat<l.length:=by omega
  exact⟨l[i.toNat],by simp[VM.idx,h0,List.getElem?_eq_getElem this],List.getElem?_eq_getElem this⟩
theorem Ok.sub{l:List α}{a b:Int} (h0:0≤a) (h1:a≤b) (h2:b≤l.length):Ok (sub l a b) (fun x=>x=(l.drop a.toNat).take (b.toNat-a.toNat)∧x.length=(b-a).toNat):=by
  refine⟨_,by simp[VM.sub,h0,h1,h2],rfl,?_⟩
  simp;omega
end
end Go.VM
namespace Go.VM
section
variable{N:Nat}
def Ee (c:UInt8):Bool:=decide (c.toNat / 64=2)
def Ps:List UInt8→Option (Nat×Nat)
  |[]=>none
  | a::t=>
    if a.toNat<128 then some (a.toNat,1)
    else if a.toNat / 32=6 then
      match t with
      |b::_=>if Ee b=true∧128≤a.toNat % 32 * 64+b.toNat % 64 then some (a.toNat % 32 * 64+b.toNat % 64,2)else none
      |_=>none
    else if a.toNat / 16=14 then
      match t with
      |b::c::_=>if Ee b=true∧Ee c=true∧2048≤(a.toNat % 16 * 64+b.toNat % 64) * 64+c.toNat % 64∧EM (((a.toNat % 16 * 64+b.toNat % 64) * 64+c.toNat % 64:Nat))=true then some ((a.toNat % 16 * 64+b.toNat % 64) * 64+c.toNat % 64,3)else none
      |_=>none
    else if a.toNat / 8=30 then
      match t with
      |b::c::d::_=>if Ee b=true∧Ee c=true∧Ee d=true∧65536≤((a.toNat % 8 * 64+b.toNat % 64) * 64+c.toNat % 64) * 64+d.toNat % 64∧EM ((((a.toNat % 8 * 64+b.toNat % 64) * 64+c.toNat % 64) * 64+d.toNat % 64:Nat))=true then some (((a.toNat % 8 * 64+b.toNat % 64) * 64+c.toNat % 64) * 64+d.toNat % 64,4)else none
      |_=>none
    else none
def Hz (i:Nat):Option (Nat×Nat)→Int×Int×Int
  |some (r,n)=>((r:Int),((i+n:Nat):Int),0)
  |none=>(0,0,7)
theorem QN{α:Type}{l t:List α}{x:α}{i j:Nat} (h:l.drop i=t) (hx:t[j]?=some x):idx l ((i+j:Nat):Int)=some x:=by
  rw[Mc,←List.getElem?_drop,h,hx]
theorem E8{α:Type}{l t:List α}{i:Nat} (h:l.drop i=t) (hi:i≤l.length):l.length=i+t.length:=by
  have:=congrArg List.length h
  simp at this;omega
section
variable{l t:List UInt8}{i:Nat}{k13:Int→Option (Int×Int×Int)}
theorem UM (hi:i+10≤2^60){k m j:Nat}{r:Int} (h:m<j) (hj:j≤5):BL N l (i:Int) (m:Int) k13 (k+1) r (j:Int)=k13 r:=by
  rw[BL]
  have: ¬(j:Int)≤m:=by omega
  simp[this]
theorem Me (hi:i+10≤2^60){k m j r:Nat}{x:UInt8} (h:j≤m) (hm:m≤3) (ht:l.drop i=t) (hx:t[j]?=some x) (hr:r<2^50):
    BL N l (i:Int) (m:Int) k13 (k+1) (r:Int) (j:Int)=if Ee x=true then BL N l (i:Int) (m:Int) k13 k ((r * 64+x.toNat % 64:Nat):Int) ((j+1:Nat):Int)else some (0,0,7):=by
  rw[BL]
  have h1:(j:Int)≤m:=by omega
  have h2:wr .i64 ((i:Int)+(j:Int))=((i+j:Nat):Int):=by rw[A8 (by omega)];simp
  have h3:wr .i64 ((j:Int)+1)=((j+1:Nat):Int):=by rw[A8 (by omega)];simp
  have h4:x.toNat % 64<64:=Nat.mod_lt _ (by decide)
  simp only[h1,decide_true,if_true,h2,h3]
  rw[QN ht hx,Option.bind_some,ALc,b63,Hd (by omega),AI6 hr h4]
  have h5:((((x.toNat / 64 * 64:Nat):Int)) !=128)=!Ee x:=by
    unfold Ee
    by_cases hc:x.toNat / 64=2
    · rw[hc];rfl
    · have: ¬((x.toNat / 64 * 64:Nat):Int)=128:=by omega
      simp only[hc,decide_false,Bool.not_false,bne_iff_ne,ne_eq];exact this
  rw[h5]
  cases Ee x<;>simp
theorem ALb:idx Dn 0=some (Utf8textForm.mk 0 127 0):=rfl
theorem AL0:idx Dn 1=some (Utf8textForm.mk 192 31 128):=rfl
theorem ALy:idx Dn 2=some (Utf8textForm.mk 224 15 2048):=rfl
theorem ALf:idx Dn 3=some (Utf8textForm.mk 240 7 65536):=rfl
def AD6 (i m least r:Nat):Int×Int×Int:=if least≤r∧EM (r:Int)=true then((r:Int),((i+m:Nat):Int),0)else(0,0,7)
theorem AFt (hN:5≤N) (hi:i<l.length) (hb:l.length+10≤2^60):Gh N l (i:Int)=some (Hz i (Ps (l.drop i))):=by
  obtain⟨M,rfl⟩: ∃M,N=M+5:=⟨N-5,by omega⟩
  unfold Gh
  have c1: ¬((i:Int)<0):=by omega
  have c2: ¬((i:Int)≥(l.length:Int)):=by omega
  simp only[Ab,c1,c2,decide_false,Bool.false_eq_true,if_false]
  rw[AU (by decide)]
  obtain⟨t,ht⟩: ∃t,l.drop i=t:=⟨_,rfl⟩
  have hl:=E8 ht (by omega)
  cases t with
  |nil=>simp at hl;omega
  | cons a t=>
    have ha:idx l (i:Int)=some a:=by
      have:=QN (j:=0) ht rfl
      simpa using this
    have hat:=a.toNat_lt
    simp only[List.length_cons]at hl
    have hw:wr .i64 (wr .i64 ((l.length:Int)-(i:Int))-1)=((t.length:Nat):Int):=by
      rw[A8 (n:=(l.length:Int)-(i:Int)) (by omega),A8 (by omega)];omega
    have he: ∀m:Nat,m≤3→wr .i64 (wr .i64 ((i:Int)+(m:Int))+1)=((i+(m+1):Nat):Int):=by
      intro m hm
      rw[A8 (n:=(i:Int)+(m:Int)) (by omega),A8 (by omega)];omega
    have fin: ∀(m least r:Nat),m≤3→(if decide ((r:Int)<(least:Int))=true then(some (0,0,7):Option (Int×Int×Int))else Option.bind (F7 (M+5) (r:Int)) fun y22=>if(!y22)=true then some (0,0,7)else some ((r:Int),wr .i64 (wr .i64 ((i:Int)+(m:Int))+1),0))=some (AD6 i (m+1) least r):=by
      intro m least r hm
      rw[ABz,Option.bind_some,he m hm]
      unfold AD6
      by_cases h1:least≤r
      · have: ¬(r:Int)<least:=by omega
        cases hp:EM (r:Int)<;>simp[h1,this,hp]
      · have:(r:Int)<least:=by omega
        simp[h1,this]
    rw[ht]
    show Bu (M+5) l (i:Int) _ 4 0=_
    rw[Bu,ALb,Option.bind_some,ha,Option.bind_some,AK3,hw]
    unfold Ps
    by_cases h1:a.toNat<128
    · have e1:((a.toNat / 128 * 128:Nat):Int)=0:=by omega
      have e2: ¬((t.length:Int)<0):=by omega
      simp only[e1,bne_self_eq_false,Bool.false_eq_true,if_false,e2,decide_false,Ab,h1,if_true]
      rw[AL2,Nat.mod_eq_of_lt h1,Hd (by omega)]
      rw[show BL (M+5) l (i:Int) 0=BL (M+5) l (i:Int) ((0:Nat):Int)from rfl,show(1:Int)=((1:Nat):Int)from rfl,UM (by omega) (by omega) (by omega)]
      have:=fin 0 0 a.toNat (by omega)
      rw[show((0:Nat):Int)=0 from rfl]at this
      rw[show((1:Nat):Int)=1 from rfl,this]
      have hp:EM (a.toNat:Int)=true:=by simp[EM];omega
      simp[AD6,hp,Hz]
    · have e1 : (((a.toNat / 128 * 128:Nat):Int) !=0)=true:=by
        have: ¬((a.toNat / 128 * 128:Nat):Int)=0:=by omega
        simpa using this
      simp only[e1,if_true,h1,if_false]
      rw[show(0:Int)+1=1 from rfl,Bu,AL0,Option.bind_some,ha,Option.bind_some,ALz,hw]
      by_cases h2:a.toNat / 32=6
      · rw [h2]
        simp only[show(((6 * 32:Nat):Int) !=192)=false from rfl,Bool.false_eq_true,if_false,if_true]
        cases t with
        |nil=>simp[Hz]
        | cons b t=>
          have e2: ¬((((b::t).length:Nat):Int)<1):=by simp only[List.length_cons];omega
          simp only[e2,decide_false,Bool.false_eq_true,if_false,Ab]
          rw[b31,Hd (by omega)]
          rw[show BL (M+5) l (i:Int) 1=BL (M+5) l (i:Int) ((1:Nat):Int)from rfl,show(1:Int)=((1:Nat):Int)from rfl]
          rw[Me (by omega) (Nat.le_refl _) (by omega) ht rfl (by omega)]
          cases hc:Ee b with
          |false=>simp[hc,Hz]
          | true=>
            simp only[if_true,true_and]
            rw[UM (by omega) (by omega) (by omega)]
            have:=fin 1 128 (a.toNat % 32 * 64+b.toNat % 64) (by omega)
            rw[show((1:Nat):Int)=1 from rfl]at this
            rw[show((1:Nat):Int)=1 from rfl]
            refine this.trans ?_
            have hp:EM ((a.toNat % 32 * 64+b.toNat % 64:Nat):Int)=true:=by
              have:a.toNat % 32<32:=Nat.mod_lt _ (by decide)
              have:b.toNat % 64<64:=Nat.mod_lt _ (by decide)
              simp[EM];omega
            simp only[AD6,hp,and_true]
            split<;>simp[Hz]
      · have e1 : (((a.toNat / 32 * 32:Nat):Int) !=192)=true:=by
          have: ¬((a.toNat / 32 * 32:Nat):Int)=192:=by omega
          simpa using this
        simp only[e1,if_true,h2,if_false]
        rw[show(1:Int)+1=2 from rfl,Bu,ALy,Option.bind_some,ha,Option.bind_some,ALp,hw]
        by_cases h3:a.toNat / 16=14
        · rw [h3]
          simp only[show(((14 * 16:Nat):Int) !=224)=false from rfl,Bool.false_eq_true,if_false,if_true]
          match t,ht,hl with
          |[],ht,hl=>simp[Hz]
          |[b],ht,hl=>simp[Hz]
          | b::c::t,ht,hl=>
            have e2: ¬((((b::c::t).length:Nat):Int)<2):=by simp only[List.length_cons];omega
            simp only[e2,decide_false,Bool.false_eq_true,if_false,Ab]
            rw[b15,Hd (by omega)]
            rw[show BL (M+5) l (i:Int) 2=BL (M+5) l (i:Int) ((2:Nat):Int)from rfl,show(1:Int)=((1:Nat):Int)from rfl]
            rw[Me (by omega) (by omega) (by omega) ht rfl (by omega)]
            cases hc:Ee b with
            |false=>simp[hc,Hz]
            | true=>
              simp only[if_true,true_and]
              rw[Me (by omega) (by omega) (by omega) ht rfl (by omega)]
              cases hc2:Ee c with
              |false=>simp[hc2,Hz]
              | true=>
                simp only[if_true,true_and]
                rw[UM (by omega) (by omega) (by omega)]
                have:=fin 2 2048 ((a.toNat % 16 * 64+b.toNat % 64) * 64+c.toNat % 64) (by omega)
                rw[show((2:Nat):Int)=2 from rfl]at this
                refine this.trans ?_
                simp only[AD6]
                split<;>simp[Hz]
        · have e1:(((a.toNat / 16 * 16:Nat):Int) !=224)=true:=by
            have: ¬((a.toNat / 16 * 16:Nat):Int)=224:=by omega
            simpa using this
          simp only[e1,if_true,h3,if_false]
          rw[show(2:Int)+1=3 from rfl,Bu,ALf,Option.bind_some,ha,Option.bind_some,bn7,hw]
          by_cases h4:a.toNat / 8=30
          · rw [h4]
            simp only[show(((30 * 8:Nat):Int) !=240)=false from rfl,Bool.false_eq_true,if_false,if_true]
            match t,ht,hl with
            |[],ht,hl=>simp[Hz]
            |[b],ht,hl=>simp[Hz]
            |[b,c],ht,hl=>simp[Hz]
            | b::c::d::t,ht,hl=>
              have e2: ¬((((b::c::d::t).length:Nat):Int)<3):=by simp only[List.length_cons];omega
              simp only[e2,decide_false,Bool.false_eq_true,if_false,Ab]
              rw[b7,Hd (by omega)]
              rw[show BL (M+5) l (i:Int) 3=BL (M+5) l (i:Int) ((3:Nat):Int)from rfl,show(1:Int)=((1:Nat):Int)from rfl]
              rw[Me (by omega) (by omega) (by omega) ht rfl (by omega)]
              cases hc:Ee b with
              |false=>simp[hc,Hz]
              | true=>
                simp only[if_true,true_and]
                rw[Me (by omega) (by omega) (by omega) ht rfl (by omega)]
                cases hc2:Ee c with
                |false=>simp[hc2,Hz]
                | true=>
                  simp only[if_true,true_and]
                  rw[Me (by omega) (by omega) (by omega) ht rfl (by omega)]
                  cases hc3:Ee d with
                  |false=>simp[hc3,Hz]
                  | true=>
                    simp only[if_true,true_and]
                    rw[UM (by omega) (by omega) (by omega)]
                    have:=fin 3 65536 (((a.toNat % 8 * 64+b.toNat % 64) * 64+c.toNat % 64) * 64+d.toNat % 64) (by omega)
                    rw[show((3:Nat):Int)=3 from rfl]at this
                    refine this.trans ?_
                    simp only[AD6]
                    split<;>simp[Hz]
          · have e1:(((a.toNat / 8 * 8:Nat):Int) !=240)=true:=by
              have: ¬((a.toNat / 8 * 8:Nat):Int)=240:=by omega
              simpa using this
            simp only[e1,if_true,h4,if_false]
            rw[Bu]
            rfl
end
end
end Go.VM
namespace Go.VM
section
variable{N:Nat}
theorem ALa{a:Nat} (h:a<256):DT .i64 (a:Int) 31=((a % 32:Nat):Int):=Nj 5 (by omega) (by decide)
theorem ALs{a:Nat} (h:a<256):DT .i64 (a:Int) 15=((a % 16:Nat):Int):=Nj 4 (by omega) (by decide)
theorem b7'{a:Nat} (h:a<256):DT .i64 (a:Int) 7=((a % 8:Nat):Int):=Nj 3 (by omega) (by decide)
theorem OV{x:List UInt8}{k4:Int→Option Int}{k j r:Nat}{c:UInt8} (hx:x[j]?=some c) (hr:r<2^50):
    Ck N x k4 (k+1) (j:Int) (r:Int)=Ck N x k4 k ((j+1:Nat):Int) ((r * 64+c.toNat % 64:Nat):Int):=by
  have hc:=c.toNat_lt
  rw[Ck,Mc,hx,Option.bind_some,H9,Hd (by omega),NL (by omega),AI6 hr (Nat.mod_lt _ (by decide))]
  simp
def Vm:List UInt8→Nat
  |[a]=>a.toNat
  |[a,b]=>a.toNat % 32 * 64+b.toNat % 64
  |[a,b,c]=>(a.toNat % 16 * 64+b.toNat % 64) * 64+c.toNat % 64
  |[a,b,c,d]=>((a.toNat % 8 * 64+b.toNat % 64) * 64+c.toNat % 64) * 64+d.toNat % 64
  |_=>0
theorem AD4 (x:List UInt8) (h0:0<x.length) (h4:x.length≤4):GJ N x=some (Vm x:Int):=by
  match x,h0,h4 with
  | [a],_,_=>
    have ha:=a.toNat_lt
    unfold GJ
    rw[show((([a]:List UInt8).length:Int)==1)=true from rfl,if_pos rfl,show idx [a] 0=some a from rfl,Option.bind_some,H9,Hd (by omega)]
    rfl
  | [a,b],_,_=>
    have ha:=a.toNat_lt
    unfold GJ
    rw[show((([a,b]:List UInt8).length:Int)==1)=false from rfl,if_neg (by decide),show idx [a,b] 0=some a from rfl,Option.bind_some,H9]
    rw[AU (by show¬((5:Int)<0);decide),Ab,AU (by show(-4611686018427387904:Int)≤1∧(2:Int)≤4611686018427387904;decide),Hd (by omega)]
    rw[show wr .i64 (JL .i64 1 (wr .i64 (7-(([a,b]:List UInt8).length:Int)))-1)=31 from rfl,ALa (by omega)]
    rw[show((([a,b]:List UInt8).length:Int)-1).toNat=0+1 from rfl,show(1:Int)=((1:Nat):Int)from rfl]
    rw[OV (c:=b) rfl (by omega),Ck]
    rfl
  | [a,b,c],_,_=>
    have ha:=a.toNat_lt
    unfold GJ
    rw[show((([a,b,c]:List UInt8).length:Int)==1)=false from rfl,if_neg (by decide),show idx [a,b,c] 0=some a from rfl,Option.bind_some,H9]
    rw[AU (by show¬((4:Int)<0);decide),Ab,AU (by show(-4611686018427387904:Int)≤1∧(3:Int)≤4611686018427387904;decide),Hd (by omega)]
    rw[show wr .i64 (JL .i64 1 (wr .i64 (7-(([a,b,c]:List UInt8).length:Int)))-1)=15 from rfl,ALs (by omega)]
    rw[show((([a,b,c]:List UInt8).length:Int)-1).toNat=0+1+1 from rfl,show(1:Int)=((1:Nat):Int)from rfl]
    rw[OV (c:=b) rfl (by omega),OV (c:=c) rfl (by omega),Ck]
    rfl
  | [a,b,c,d],_,_=>
    have ha:=a.toNat_lt
    unfold GJ
    rw[show((([a,b,c,d]:List UInt8).length:Int)==1)=false from rfl,if_neg (by decide),show idx [a,b,c,d] 0=some a from rfl,Option.bind_some,H9]
    rw[AU (by show¬((3:Int)<0);decide),Ab,AU (by show(-4611686018427387904:Int)≤1∧(4:Int)≤4611686018427387904;decide),Hd (by omega)]
    rw[show wr .i64 (JL .i64 1 (wr .i64 (7-(([a,b,c,d]:List UInt8).length:Int)))-1)=7 from rfl,b7' (by omega)]
    rw[show((([a,b,c,d]:List UInt8).length:Int)-1).toNat=0+1+1+1 from rfl,show(1:Int)=((1:Nat):Int)from rfl]
    rw[OV (c:=b) rfl (by omega),OV (c:=c) rfl (by omega),OV (c:=d) rfl (by omega),Ck]
    rfl
def SI (x:List UInt8):Bool:=EM (Vm x:Int)&&(AAE (Vm x)==x)
theorem Pz{l:List UInt8}{i j k:Nat}{k6:Unit→Option (Int×Int×Int)} (hi:i+10≤2^60) (h1:1≤j) (h4:j≤4):
    DJ N l (i:Int) k6 (k+1) (j:Int)=if i+j≤l.length then(if SI ((l.drop i).take j)=true then some ((Vm ((l.drop i).take j):Int),((i+j:Nat):Int),0)else DJ N l (i:Int) k6 k ((j+1:Nat):Int))else k6 ():=by
  rw[DJ,Ab]
  have e1:(j:Int)≤4:=by omega
  have e2:wr .i64 ((i:Int)+(j:Int))=((i+j:Nat):Int):=by rw[A8 (by omega)];simp
  have e3:wr .i64 ((j:Int)+1)=((j+1:Nat):Int):=by rw[A8 (by omega)];simp
  simp only[e1,decide_true,if_true,e2,e3]
  by_cases h:i+j≤l.length
  · have h':((i+j:Nat):Int)≤(l.length:Int):=by omega
    simp only[h,h',decide_true,if_true]
    rw[Fh l i (i+j) (by omega) h,Option.bind_some,Nat.add_sub_cancel_left]
    have hl:((l.drop i).take j).length=j:=by simp;omega
    rw[AD4 _ (by omega) (by omega),Option.bind_some,AFJ,Option.bind_some,Ab]
    unfold SI encR
    cases hp:EM (Vm ((l.drop i).take j):Int)
    · simp
    · simp only[if_true,Int.toNat_natCast,Bool.true_and,beq_self_eq_true]
  · have h': ¬((i+j:Nat):Int)≤(l.length:Int):=by omega
    simp only[h,h',decide_false,if_false,Bool.false_eq_true]
theorem XQ (a:UInt8):SI [a]=true↔a.toNat<128:=by
  have ha:=a.toNat_lt
  have hp:EM (a.toNat:Int)=true:=by simp[EM];omega
  simp only[SI,Vm,hp,Bool.true_and,AAE]
  by_cases h:a.toNat<128
  · simp[h]
  · have:a.toNat<2048:=by omega
    simp[h,this]
theorem Nk{n:Nat}{a:UInt8} (h:n<256):UInt8.ofNat n=a↔n=a.toNat:=by
  rw[AK2,toNat_ofNat h]
theorem QE (b:UInt8):Ee b=true↔128+b.toNat % 64=b.toNat:=by
  have:=b.toNat_lt
  simp only[Ee,decide_eq_true_eq];omega
theorem hit2 (a b:UInt8):SI [a,b]=true↔a.toNat / 32=6∧Ee b=true∧128≤a.toNat % 32 * 64+b.toNat % 64:=by
  have ha:=a.toNat_lt
  have hb:=b.toNat_lt
  have hp:EM ((a.toNat % 32 * 64+b.toNat % 64:Nat):Int)=true:=by simp[EM];omega
  simp only[SI,Vm,hp,Bool.true_and,AAE,QE]
  by_cases h:a.toNat % 32 * 64+b.toNat % 64<128
  · simp[h]
  · have h2:a.toNat % 32 * 64+b.toNat % 64<2048:=by omega
    simp only[h,h2,if_true,if_false,beq_iff_eq,List.cons.injEq,and_true]
    rw[Nk (by omega),Nk (by omega)]
    omega
theorem hit3 (a b c:UInt8):SI [a,b,c]=true↔a.toNat / 16=14∧Ee b=true∧Ee c=true∧2048≤(a.toNat % 16 * 64+b.toNat % 64) * 64+c.toNat % 64∧EM (((a.toNat % 16 * 64+b.toNat % 64) * 64+c.toNat % 64:Nat))=true:=by
  have ha:=a.toNat_lt
  have hb:=b.toNat_lt
  have hc:=c.toNat_lt
  simp only[SI,Vm,AAE,QE,Bool.and_eq_true]
  by_cases h0:(a.toNat % 16 * 64+b.toNat % 64) * 64+c.toNat % 64<128
  · simp[h0];omega
  by_cases h1:(a.toNat % 16 * 64+b.toNat % 64) * 64+c.toNat % 64<2048
  · simp[h0,h1];omega
  · have h2:(a.toNat % 16 * 64+b.toNat % 64) * 64+c.toNat % 64<65536:=by omega
    simp only[h0,h1,h2,if_true,if_false,beq_iff_eq,List.cons.injEq,and_true]
    rw[Nk (by omega),Nk (by omega),Nk (by omega)]
    constructor
    · rintro⟨hp,h⟩;exact⟨by omega,by omega,by omega,by omega,hp⟩
    · rintro⟨h,h',h'',_,hp⟩;exact⟨hp,by omega,by omega,by omega⟩
theorem AGd (a b c d:UInt8):SI [a,b,c,d]=true↔a.toNat / 8=30∧Ee b=true∧Ee c=true∧Ee d=true∧65536≤((a.toNat % 8 * 64+b.toNat % 64) * 64+c.toNat % 64) * 64+d.toNat % 64∧EM ((((a.toNat % 8 * 64+b.toNat % 64) * 64+c.toNat % 64) * 64+d.toNat % 64:Nat))=true:=by
  have ha:=a.toNat_lt
  have hb:=b.toNat_lt
  have hc:=c.toNat_lt
  have hd:=d.toNat_lt
  simp only[SI,Vm,AAE,QE,Bool.and_eq_true]
  by_cases h0:((a.toNat % 8 * 64+b.toNat % 64) * 64+c.toNat % 64) * 64+d.toNat % 64<128
  · simp[h0];omega
  by_cases h1:((a.toNat % 8 * 64+b.toNat % 64) * 64+c.toNat % 64) * 64+d.toNat % 64<2048
  · simp[h0,h1];omega
  by_cases h2:((a.toNat % 8 * 64+b.toNat % 64) * 64+c.toNat % 64) * 64+d.toNat % 64<65536
  · simp[h0,h1,h2];omega
  · simp only[h0,h1,h2,if_true,if_false,beq_iff_eq,List.cons.injEq,and_true]
    rw[Nk (by omega),Nk (by omega),Nk (by omega),Nk (by omega)]
    constructor
    · rintro⟨hp,h⟩;exact⟨by omega,by omega,by omega,by omega,by omega,hp⟩
    · rintro⟨h,h',h'',h3,_,hp⟩;exact⟨hp,by omega,by omega,by omega,by omega⟩
theorem AGu{l:List UInt8}{i k:Nat}{k6:Unit→Option (Int×Int×Int)}:DJ N l (i:Int) k6 (k+1) ((4+1:Nat):Int)=k6 ():=by
  rw[DJ,Ab];rfl
theorem Ej{b:Bool}{p:Prop} (h:b=true↔p) (k: ¬p):b=false:=by
  cases b
  · rfl
  · exact absurd (h.1 rfl) k
theorem AEu{l:List UInt8}{i:Nat} (hN:5≤N) (hi:i<l.length) (hb:l.length+10≤2^60):Ho N l (i:Int)=some (Hz i (Ps (l.drop i))):=by
  obtain⟨M,rfl⟩: ∃M,N=M+1+1+1+1+1:=⟨N-5,by omega⟩
  unfold Ho
  have c1: ¬((i:Int)<0):=by omega
  have c2: ¬((i:Int)≥(l.length:Int)):=by omega
  simp only[Ab,c1,c2,decide_false,Bool.false_eq_true,if_false]
  rw[show(1:Int)=((1:Nat):Int)from rfl,Pz (by omega) (by omega) (by omega),Pz (by omega) (by omega) (by omega),Pz (by omega) (by omega) (by omega),Pz (by omega) (by omega) (by omega),AGu]
  obtain⟨t,ht⟩: ∃t,l.drop i=t:=⟨_,rfl⟩
  have hl:=E8 ht (by omega)
  rw[ht]
  match t,hl with
  |[],hl=>simp at hl;omega
  | [a],hl=>
    simp only[List.length_cons,List.length_nil]at hl
    have e1:i+1≤l.length:=by omega
    have e2: ¬i+(1+1)≤l.length:=by omega
    simp only[e1,e2,if_true,if_false,List.take]
    simp only[Ps]
    by_cases h1:a.toNat<128
    · rw[if_pos ((XQ a).2 h1),if_pos h1];rfl
    · rw[Ej (XQ a) h1]
      simp[h1,Hz]
      repeat' split
      all_goals rfl
  | [a, b],hl=>
    simp only[List.length_cons,List.length_nil]at hl
    have e1:i+1≤l.length:=by omega
    have e2:i+(1+1)≤l.length:=by omega
    have e3: ¬i+(1+1+1)≤l.length:=by omega
    simp only[e1,e2,e3,if_true,if_false,List.take]
    simp only[Ps]
    by_cases h1:a.toNat<128
    · rw[if_pos ((XQ a).2 h1),if_pos h1];rfl
    · rw[Ej (XQ a) h1]
      simp only[Bool.false_eq_true,if_false,h1]
      by_cases h2:a.toNat / 32=6
      · simp only[h2,if_true]
        by_cases k:Ee b=true∧128≤a.toNat % 32 * 64+b.toNat % 64
        · rw[if_pos ((hit2 a b).2 ⟨h2,k⟩),if_pos k];rfl
        · rw[Ej (hit2 a b) (fun h=>k h.2),if_neg k];rfl
      · rw[Ej (hit2 a b) (fun h=>h2 h.1)]
        simp only[Bool.false_eq_true,if_false,h2,ite_self,Hz]
  | [a, b,c],hl=>
    simp only[List.length_cons,List.length_nil]at hl
    have e1:i+1≤l.length:=by omega
    have e2:i+(1+1)≤l.length:=by omega
    have e3:i+(1+1+1)≤l.length:=by omega
    have e4: ¬i+(1+1+1+1)≤l.length:=by omega
    simp only[e1,e2,e3,e4,if_true,if_false,List.take]
    simp only[Ps]
    by_cases h1:a.toNat<128
    · rw[if_pos ((XQ a).2 h1),if_pos h1];rfl
    · rw [Ej (XQ a) h1]
      simp only[Bool.false_eq_true,if_false,h1]
      by_cases h2:a.toNat / 32=6
      · have h3: ¬a.toNat / 16=14:=by omega
        simp only[h2,if_true,Ej (hit3 a b c) (fun h=>h3 h.1),Bool.false_eq_true,if_false]
        by_cases k:Ee b=true∧128≤a.toNat % 32 * 64+b.toNat % 64
        · rw[if_pos ((hit2 a b).2 ⟨h2,k⟩),if_pos k];rfl
        · rw[Ej (hit2 a b) (fun h=>k h.2),if_neg k];rfl
      · rw[Ej (hit2 a b) (fun h=>h2 h.1)]
        simp only[Bool.false_eq_true,if_false,h2]
        by_cases h3:a.toNat / 16=14
        · simp only[h3,if_true]
          by_cases k:Ee b=true∧Ee c=true∧2048≤(a.toNat % 16 * 64+b.toNat % 64) * 64+c.toNat % 64∧EM (((a.toNat % 16 * 64+b.toNat % 64) * 64+c.toNat % 64:Nat))=true
          · rw[if_pos ((hit3 a b c).2 ⟨h3,k⟩),if_pos k];rfl
          · rw[if_neg (fun e=>k ((hit3 a b c).1 e).2),if_neg k];rfl
        · rw[Ej (hit3 a b c) (fun h=>h3 h.1)]
          simp only[Bool.false_eq_true,if_false,h3,ite_self,Hz]
  | a::b::c::d::t,hl=>
    simp only[List.length_cons]at hl
    have e1:i+1≤l.length:=by omega
    have e2:i+(1+1)≤l.length:=by omega
    have e3:i+(1+1+1)≤l.length:=by omega
    have e4:i+(1+1+1+1)≤l.length:=by omega
    rw[show List.take 1 (a::b::c::d::t)=[a]from rfl,show List.take (1+1) (a::b::c::d::t)=[a,b]from rfl,show List.take (1+1+1) (a::b::c::d::t)=[a,b,c]from rfl,show List.take (1+1+1+1) (a::b::c::d::t)=[a,b,c,d]from rfl]
    simp only[e1,e2,e3,e4,if_true,if_false]
    simp only[Ps]
    by_cases h1:a.toNat<128
    · rw[if_pos ((XQ a).2 h1),if_pos h1];rfl
    · rw [Ej (XQ a) h1]
      simp only[Bool.false_eq_true,if_false,h1]
      by_cases h2:a.toNat / 32=6
      · have h3: ¬a.toNat / 16=14:=by omega
        have h4: ¬a.toNat / 8=30:=by omega
        simp only[h2,if_true,Ej (hit3 a b c) (fun h=>h3 h.1),Ej (AGd a b c d) (fun h=>h4 h.1),Bool.false_eq_true,if_false]
        by_cases k:Ee b=true∧128≤a.toNat % 32 * 64+b.toNat % 64
        · rw[if_pos ((hit2 a b).2 ⟨h2,k⟩),if_pos k];rfl
        · rw[Ej (hit2 a b) (fun h=>k h.2),if_neg k];rfl
      · rw [Ej (hit2 a b) (fun h=>h2 h.1)]
        simp only[Bool.false_eq_true,if_false,h2]
        by_cases h3:a.toNat / 16=14
        · have h4: ¬a.toNat / 8=30:=by omega
          simp only[h3,if_true,Ej (AGd a b c d) (fun h=>h4 h.1),Bool.false_eq_true,if_false]
          by_cases k:Ee b=true∧Ee c=true∧2048≤(a.toNat % 16 * 64+b.toNat % 64) * 64+c.toNat % 64∧EM (((a.toNat % 16 * 64+b.toNat % 64) * 64+c.toNat % 64:Nat))=true
          · rw[if_pos ((hit3 a b c).2 ⟨h3,k⟩),if_pos k];rfl
          · rw[if_neg (fun e=>k ((hit3 a b c).1 e).2),if_neg k];rfl
        · rw[Ej (hit3 a b c) (fun h=>h3 h.1)]
          simp only[Bool.false_eq_true,if_false,h3]
          by_cases h4:a.toNat / 8=30
          · simp only[h4,if_true]
            by_cases k:Ee b=true∧Ee c=true∧Ee d=true∧65536≤((a.toNat % 8 * 64+b.toNat % 64) * 64+c.toNat % 64) * 64+d.toNat % 64∧EM ((((a.toNat % 8 * 64+b.toNat % 64) * 64+c.toNat % 64) * 64+d.toNat % 64:Nat))=true
            · rw[if_pos ((AGd a b c d).2 ⟨h4,k⟩),if_pos k];rfl
            · rw[if_neg (fun e=>k ((AGd a b c d).1 e).2),if_neg k];rfl
          · rw[if_neg (fun e=>h4 ((AGd a b c d).1 e).1),if_neg h4];rfl
end
end Go.VM
namespace Go.VM
section
variable{N:Nat}
theorem Jn{α:Type} [DecidableEq α]{f g:Nat→α} (h:(List.range 256).all (fun n=>decide (f n=g n))=true) (c:UInt8):f c.toNat=g c.toNat:=by
  have:=List.all_eq_true.1 h c.toNat (List.mem_range.2 c.toNat_lt)
  simpa using this
def AGI (n:Nat):Bool:=(decide (48≤n)&&decide (n≤57))||(decide (65≤n)&&decide (n≤70))||(decide (97≤n)&&decide (n≤102))
def AJS (c:UInt8):Bool:=AGI c.toNat
def Jq (n:Nat):Nat:=if n≤57 then n-48 else if n≤70 then n-55 else n-87
theorem AGv (c:UInt8) (h:AJS c=true):Ii N (Ae c)=some ((Jq c.toNat:Nat):Int):=by
  have:=Jn (f:=fun n=>if AGI n=true then Ii N (n:Int)else none) (g:=fun n=>if AGI n=true then some ((Jq n:Nat):Int)else none) (by kernel_rfl) c
  simp only[show AGI c.toNat=true from h,if_true]at this
  exact this
end
end Go.VM
namespace Go.VM
section
variable{N:Nat}
end
end Go.VM
namespace Go.VM
section
variable{N:Nat}
theorem Ww {t:List UInt8}{r n:Nat} (h:Ps t=some (r,n)):1≤n∧n≤t.length∧n≤4:=by
  match t,h with
  |[],h=>cases h
  | a :: t, h=>
    simp only[Ps]at h
    split at h
    · simp only[Option.some.injEq,Prod.mk.injEq]at h;obtain⟨_,rfl⟩:=h;simp
    · split at h
      · match t,h with
        |[],h=>cases h
        | b::t,h=>
          simp only at h
          split at h
          · simp only[Option.some.injEq,Prod.mk.injEq]at h;obtain⟨_,rfl⟩:=h;simp
          · cases h
      · split at h
        · match t,h with
          |[],h=>cases h
          |[_],h=>cases h
          | b::c::t,h=>
            simp only at h
            split at h
            · simp only[Option.some.injEq,Prod.mk.injEq]at h;obtain⟨_,rfl⟩:=h;simp
            · cases h
        · split at h
          · match t,h with
            |[],h=>cases h
            |[_],h=>cases h
            |[_,_],h=>cases h
            | b::c::d::t,h=>
              simp only at h
              split at h
              · simp only[Option.some.injEq,Prod.mk.injEq]at h;obtain⟨_,rfl⟩:=h;simp
              · cases h
          · cases h
theorem AAV{n:Nat}{k:Nat}:((n:Int)==(k:Int))=decide (n=k):=by
  by_cases h:n=k
  · simp[h]
  · have: ¬(n:Int)=(k:Int):=by omega
    simp[h];omega
theorem Qb{i r n:Nat}:Hz i (some (r,n))=((r:Int),((i+n:Nat):Int),0):=rfl
theorem head_drop{l t:List UInt8}{c:UInt8}{i:Nat} (ht:l.drop i=c::t):idx l (i:Int)=some c:=by
  have:=QN (j:=0) ht rfl
  simpa using this
section
variable{l:List UInt8}
end
end
end Go.VM
namespace Go.VM
section
variable{N:Nat}
theorem M8{α:Type} (p:α→Bool) (t:List α):t.take (t.takeWhile p).length=t.takeWhile p:=
  (List.prefix_iff_eq_take.1 (List.takeWhile_prefix p)).symm
theorem Xe{α:Type} (p:α→Bool) (t:List α):(t.takeWhile p).length≤t.length:=(List.takeWhile_sublist p).length_le
def Ep (c:UInt8):Bool:=decide (48≤c.toNat)&&decide (c.toNat≤57)
theorem ABY (c:UInt8):Fy N (Ae c)=some (Ep c):=
  Jn (f:=fun n=>Fy N (n:Int)) (g:=fun n=>some (decide (48≤n)&&decide (n≤57))) (by kernel_rfl) c
theorem ABW (c:UInt8):ER N (Ae c)=some (Ep c):=
  Jn (f:=fun n=>ER N (n:Int)) (g:=fun n=>some (decide (48≤n)&&decide (n≤57))) (by kernel_rfl) c
theorem Wv (c:UInt8) (k2:Unit→Option Bool) (h:k2 ()=some false): ∀l:List UInt8,Eu N (Ae c) k2 l=some (l.contains c)
  |[]=>by rw[Eu];simpa using h
  | x::l=>by
    rw[Eu,Wv c k2 h l,List.contains_cons]
    by_cases e:x=c
    · subst e;simp
    · have e1: ¬c=x:=fun h=>e h.symm
      have:(Ae x==Ae c)=false:=by
        have: ¬x.toNat=c.toNat:=fun h=>e (UInt8.toNat_inj.1 h)
        simp only[Ae,beq_eq_false_iff_ne,ne_eq];omega
      simp[this,e1]
theorem UN (c:UInt8) (l:List UInt8) (h:l.length≤1000):Gy N (Ae c) l=some (l.contains c):=by
  unfold Gy
  rw[Ab,JA (by omega)]
  exact Wv c _ rfl l
theorem index_ge: ∀(l:List UInt8) (c:UInt8),decide (Go.Lib.indexByte l c≥0)=l.contains c
  |[],c=>rfl
  | x::l,c=>by
    have ih:=index_ge l c
    have h:=Go.Lib.indexByte_ge l c
    rw[Go.Lib.indexByte,List.contains_cons]
    by_cases e:x=c
    · subst e;simp
    · have e1:(c==x)=false:=by simpa using fun h:c=x=>e h.symm
      have e2:(x==c)=false:=by simpa using e
      rw[e1,e2,Bool.false_or,←ih]
      simp only[Bool.false_eq_true,if_false]
      by_cases k:Go.Lib.indexByte l c= -1
      · simp[k]
      · have k':(Go.Lib.indexByte l c== -1)=false:=by simpa using k
        rw[k'];simp only[Bool.false_eq_true,if_false]
        congr 1;simp only[eq_iff_iff];omega
theorem Su (l:List UInt8) (c:UInt8):strings_IndexByte N l (Ae c)=some (Go.Lib.indexByte l c):=by
  unfold strings_IndexByte Bt;rw[Ko];rfl
section
variable{l:List UInt8}
theorem Xv (hb:l.length≤2^50) (s:Int) (k2:Int→Option (List UInt8×TokenReader)): ∀(t:List UInt8) (i:Nat),l.drop i=t→i≤l.length→A7 N ⟨l,s⟩ k2 t.length (i:Int)=k2 ((i+(t.takeWhile Ep).length:Nat):Int)
  |[],i,ht,hi=>by rw[List.length_nil,A7];rfl
  | c::t,i,ht,hi=>by
    have hl:=E8 ht hi
    simp only[List.length_cons]at hl
    rw[List.length_cons,A7]
    rw[head_drop ht,Option.bind_some,ABY,Option.bind_some,List.takeWhile_cons]
    cases Ep c
    · simp
    · rw[if_pos rfl,if_pos rfl,show(i:Int)+1=((i+1:Nat):Int) by simp,Xv hb s k2 t (i+1) (by rw[←List.drop_drop,ht];rfl) (by omega)]
      rw[List.length_cons];congr 2;omega
variable{t:List UInt8}{i:Nat}
theorem ABy (p:UInt8→Bool) (ht:l.drop i=t) (hi:i≤l.length):sub l (i:Int) ((i+(t.takeWhile p).length:Nat):Int)=some (t.takeWhile p):=by
  have hl:=E8 ht hi
  have:=Xe p t
  rw[Fh l i _ (by omega) (by omega),Nat.add_sub_cancel_left,ht,M8]
theorem AFz (ht:l.drop i=t) (hi:i≤l.length) (hb:l.length≤2^50):Bv N ⟨l,(i:Int)⟩=some (t.takeWhile Ep,⟨l,((i+(t.takeWhile Ep).length:Nat):Int)⟩):=by
  have hl:=E8 ht hi
  unfold Bv
  rw[Ab,AU (by simp only[];omega)]
  rw[show((l.length:Int)-(i:Int)).toNat=t.length by omega,Xv hb _ _ t i ht hi]
  simp only[]
  rw[ABy Ep ht hi,Option.bind_some]
def Dq (set t:List UInt8):Bool:=match t with|c::_=>set.contains c|[]=>false
theorem MH (set:List UInt8) (ht:l.drop i=t) (hi:i≤l.length) (hb:l.length≤2^50):Br N ⟨l,(i:Int)⟩ set=some (Dq set t,⟨l,((i+(if Dq set t=true then 1 else 0):Nat):Int)⟩):=by
  have hl:=E8 ht hi
  unfold Br
  rw[Ab]
  match t,ht,hl with
  | [],ht,hl=>
    simp only[List.length_nil]at hl
    have c: ¬(i:Int)<(l.length:Int):=by omega
    rw[if_neg (by simpa using c)];rfl
  | c::t,ht,hl=>
    simp only[List.length_cons]at hl
    have c0:(i:Int)<(l.length:Int):=by omega
    rw[if_pos (decide_eq_true c0)]
    simp only[]
    rw[head_drop ht,Option.bind_some,Su,Option.bind_some,index_ge,A8 (by omega)]
    have key: ∀b:Bool,(if b=true then some (true,(⟨l,(i:Int)+1⟩:TokenReader))else some (false,(⟨l,(i:Int)⟩:TokenReader)))=some (b,(⟨l,((i+(if b=true then 1 else 0):Nat):Int)⟩:TokenReader)):=by
      intro b;cases b<;>simp
    exact key _
def FO (t:List UInt8):Nat:=(t.takeWhile Ep).length
theorem LV (t:List UInt8):FO t≤t.length:=Xe _ _
theorem Sk (t:List UInt8):(t.takeWhile Ep==[])=decide (FO t=0):=by
  unfold FO
  cases t.takeWhile Ep<;>simp
def A9 (t:List UInt8):Nat:=if Dq [45] t=true then 1 else 0
def Dk (t:List UInt8):Nat:=if Dq [48] t=true then 1 else FO t
def FQ (t:List UInt8):Nat:=if Dq [46] t=true∧0<FO (t.drop 1)then 1+FO (t.drop 1)else 0
def JW (t:List UInt8):Nat:=if Dq [43,45] (t.drop 1)=true then 1 else 0
def KP (t:List UInt8):Nat:=if Dq [101,69] t=true∧0<FO (t.drop (1+JW t))then 1+JW t+FO (t.drop (1+JW t))else 0
def GI (t:List UInt8):Nat:=
  if Dk (t.drop (A9 t))=0 then 0
  else A9 t+Dk (t.drop (A9 t))+FQ (t.drop (A9 t+Dk (t.drop (A9 t))))+
    KP (t.drop (A9 t+Dk (t.drop (A9 t))+FQ (t.drop (A9 t+Dk (t.drop (A9 t))))))
theorem Hg{set t:List UInt8} (h:Dq set t=true):0<t.length:=by
  cases t with
  |nil=>cases h
  |cons=>simp
theorem RL (t:List UInt8):A9 t≤t.length:=by
  unfold A9;split
  · rename_i h;exact Hg h
  · omega
theorem P9 (t:List UInt8):Dk t≤t.length:=by
  unfold Dk;split
  · rename_i h;exact Hg h
  · exact LV t
theorem Ri (t:List UInt8):FQ t≤t.length:=by
  unfold FQ;split
  · rename_i h
    have:=Hg h.1
    have:=LV (t.drop 1)
    rw[List.length_drop]at this;omega
  · omega
theorem U4 (t:List UInt8):KP t≤t.length:=by
  unfold KP;split
  · rename_i h
    have h1:=Hg h.1
    have:=LV (t.drop (1+JW t))
    rw[List.length_drop]at this
    have h2:=h.2
    omega
  · omega
theorem ABQ (t:List UInt8):GI t≤t.length:=by
  unfold GI
  split
  · omega
  · have h1:=RL t
    have h2:=P9 (t.drop (A9 t))
    have h3:=Ri (t.drop (A9 t+Dk (t.drop (A9 t))))
    have h4:=U4 (t.drop (A9 t+Dk (t.drop (A9 t))+FQ (t.drop (A9 t+Dk (t.drop (A9 t))))))
    simp only[List.length_drop]at h2 h3 h4
    omega
theorem Rb{f:Int} (ht:l.drop i=t) (hi:i≤l.length) (hb:l.length≤2^50):Ch N ⟨l,(i:Int)⟩ f=some ⟨l,if 0<FO t then((i+FO t:Nat):Int)else f⟩:=by
  unfold Ch
  rw[AFz ht hi hb,Option.bind_some]
  simp only[Sk]
  by_cases h:FO t=0
  · rw[if_pos (decide_eq_true h),if_neg (by omega)]
  · rw[if_neg (by simpa using h),if_pos (by omega)];rfl
theorem Kw{a:Nat} (ht:l.drop i=t) (n:Nat) (h:a=i+n):l.drop a=t.drop n:=by rw[h,←List.drop_drop,ht]
theorem RI (ht:l.drop i=t) (hi:i≤l.length) (hb:l.length≤2^50):
    if GI t=0 then∃q,Ci N ⟨l,(i:Int)⟩=some ([],false,q)else Ci N ⟨l,(i:Int)⟩=some (t.take (GI t),true,⟨l,((i+GI t:Nat):Int)⟩):=by
  have hl:=E8 ht hi
  have h1:=RL t
  have h2:=P9 (t.drop (A9 t))
  have h3:=Ri (t.drop (A9 t+Dk (t.drop (A9 t))))
  have h4:=U4 (t.drop (A9 t+Dk (t.drop (A9 t))+FQ (t.drop (A9 t+Dk (t.drop (A9 t))))))
  simp only[List.length_drop]at h2 h3 h4
  unfold Ci
  rw[MH [45] ht hi hb,Option.bind_some]
  change if GI t=0 then∃q,AY _ _=some ([],false,q)else AY _ _=_
  rw[show(if Dq [45] t=true then 1 else 0)=A9 t from rfl]
  have hta:=Kw ht (A9 t) rfl
  rw[MH [48] hta (by omega) hb]
  simp only[Option.bind_some]
  have rest: ∀a:Nat,a=i+(A9 t+Dk (t.drop (A9 t)))→Dk (t.drop (A9 t))≠0→
      (AY (fun j11:TokenReader=>AY (fun j19:TokenReader=>Option.bind (sub j19.s (i:Int) j19.at_) fun x29=>some (x29,true,j19)) fun k20=>
        Option.bind (Br N j11 ([101,69]:List UInt8)) fun y23=>if y23.1=true then Option.bind (Br N y23.2 ([43,45]:List UInt8)) fun y25=>Option.bind (Ch N y25.2 j11.at_) fun y27=>k20 y27 else k20 y23.2) fun k12=>
      Option.bind (Br N ⟨l,(a:Int)⟩ ([46]:List UInt8)) fun y15=>if y15.1=true then Option.bind (Ch N y15.2 (a:Int)) fun y17=>k12 y17 else k12 y15.2)=some (t.take (GI t),true,(⟨l,((i+GI t:Nat):Int)⟩:TokenReader)):=by
    intro a ha hne
    have htb:=Kw ht (A9 t+Dk (t.drop (A9 t))) ha
    have hnum:GI t=A9 t+Dk (t.drop (A9 t))+FQ (t.drop (A9 t+Dk (t.drop (A9 t))))+KP (t.drop (A9 t+Dk (t.drop (A9 t))+FQ (t.drop (A9 t+Dk (t.drop (A9 t)))))):=by
      unfold GI;rw[if_neg hne]
    have last: ∀b:Nat,b=i+(A9 t+Dk (t.drop (A9 t))+FQ (t.drop (A9 t+Dk (t.drop (A9 t)))))→
        (AY (fun j19:TokenReader=>Option.bind (sub j19.s (i:Int) j19.at_) fun x29=>some (x29,true,j19)) fun k20=>
          Option.bind (Br N ⟨l,(b:Int)⟩ ([101,69]:List UInt8)) fun y23=>if y23.1=true then Option.bind (Br N y23.2 ([43,45]:List UInt8)) fun y25=>Option.bind (Ch N y25.2 (b:Int)) fun y27=>k20 y27 else k20 y23.2)=some (t.take (GI t),true,(⟨l,((i+GI t:Nat):Int)⟩:TokenReader)):=by
      intro b hb'
      have htc:=Kw ht _ hb'
      have fin: ∀e:Nat,e=i+GI t→(Option.bind (sub l (i:Int) (e:Int)) fun x29=>some (x29,true,(⟨l,(e:Int)⟩:TokenReader)))=some (t.take (GI t),true,(⟨l,((i+GI t:Nat):Int)⟩:TokenReader)):=by
        rintro e rfl
        have:=ABQ t
        rw[Fh l i _ (by omega) (by omega),Option.bind_some,Nat.add_sub_cancel_left,ht]
      rw[Ab,MH [101,69] htc (by omega) hb,Option.bind_some]
      generalize hc:t.drop (A9 t+Dk (t.drop (A9 t))+FQ (t.drop (A9 t+Dk (t.drop (A9 t)))))=c at *
      by_cases he:Dq [101,69] c=true
      · have hpos:=Hg he
        have hcl:c.length=t.length-(A9 t+Dk (t.drop (A9 t))+FQ (t.drop (A9 t+Dk (t.drop (A9 t))))):=by rw[←hc,List.length_drop]
        simp only[he,if_true]
        rw[MH [43,45] (Kw htc 1 rfl) (by omega) hb,Option.bind_some]
        rw[show(if Dq [43,45] (c.drop 1)=true then 1 else 0)=JW c from rfl]
        have hes:JW c≤c.length-1:=by
          unfold JW;split
          · rename_i h;have:=Hg h;rw[List.length_drop]at this;omega
          · omega
        rw[Rb (Kw htc (1+JW c) (by omega)) (by omega) hb,Option.bind_some]
        by_cases hr:0<FO (c.drop (1+JW c))
        · rw[if_pos hr]
          refine fin _ ?_
          rw[hnum,show KP c=1+JW c+FO (c.drop (1+JW c)) by unfold KP;rw[if_pos ⟨he,hr⟩]]
          omega
        · rw[if_neg hr]
          refine fin _ ?_
          rw[hnum,show KP c=0 by unfold KP;rw[if_neg (fun h=>hr h.2)]]
          omega
      · rw[Bool.not_eq_true]at he
        simp only[he,Bool.false_eq_true,if_false]
        refine fin _ ?_
        rw[hnum,show KP c=0 by unfold KP;rw[if_neg (by rw[he];simp)]]
        omega
    rw[Ab,MH [46] htb (by omega) hb,Option.bind_some]
    generalize hc:t.drop (A9 t+Dk (t.drop (A9 t)))=c at *
    by_cases he:Dq [46] c=true
    · have hpos:=Hg he
      have hcl:c.length=t.length-(A9 t+Dk (t.drop (A9 t))):=by rw[←hc,List.length_drop]
      simp only[he,if_true]
      rw[Rb (Kw htb 1 rfl) (by omega) hb,Option.bind_some]
      by_cases hr:0<FO (c.drop 1)
      · rw[if_pos hr]
        refine last _ ?_
        rw[show FQ c=1+FO (c.drop 1) by unfold FQ;rw[if_pos ⟨he,hr⟩]]
        omega
      · rw[if_neg hr]
        refine last _ ?_
        rw[show FQ c=0 by unfold FQ;rw[if_neg (fun h=>hr h.2)]]
        omega
    · rw[Bool.not_eq_true]at he
      simp only[he,Bool.false_eq_true,if_false]
      refine last _ ?_
      rw[show FQ c=0 by unfold FQ;rw[if_neg (by rw[he];simp)]]
      omega
  have hnz:GI t=0↔Dk (t.drop (A9 t))=0:=by
    unfold GI
    constructor
    · intro h;by_cases k:Dk (t.drop (A9 t))=0
      · exact k
      · rw[if_neg k]at h;omega
    · intro h;rw[if_pos h]
  by_cases h0:Dq [48] (t.drop (A9 t))=true
  · have hin:Dk (t.drop (A9 t))=1:=by unfold Dk;rw[if_pos h0]
    rw[if_neg (by rw[hnz,hin];decide)]
    simp only[h0,if_true]
    rw[Ab]
    simp only[Bool.false_eq_true,if_false]
    exact rest _ (by rw[hin];omega) (by rw[hin];decide)
  · have hin:Dk (t.drop (A9 t))=FO (t.drop (A9 t)):=by unfold Dk;rw[if_neg h0]
    rw[Bool.not_eq_true]at h0
    simp only[h0,Bool.false_eq_true,if_false,Nat.add_zero]
    rw[AFz hta (by omega) hb]
    simp only[Option.bind_some,Ab,Sk]
    by_cases hr:FO (t.drop (A9 t))=0
    · rw[if_pos (by rw[hnz,hin];exact hr)]
      simp only[hr,decide_true,if_true]
      exact⟨_,rfl⟩
    · rw[if_neg (by rw[hnz,hin];exact hr)]
      simp only[hr,decide_false,Bool.false_eq_true,if_false]
      have:=rest (i+A9 t+FO (t.drop (A9 t))) (by rw[hin];omega) (by rw[hin];exact hr)
      simp only[Ab]at this
      exact this
end
end
end Go.VM
