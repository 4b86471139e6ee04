import Derived.Test.YtjmejdocgdbklaaGreatDoorVM2
import GoSem.Claim
import Derived.Test.YtjmejdocgdbklaaGreatDoorDefs
import Derived.KernelRfl
set_option linter.defProp false
set_option linter.unusedVariables false
set_option linter.unusedSimpArgs false
namespace Go.VM
def Nl{n:Nat} (h:n<=9223372036854775807):wr .i64 (n:Int)=n:=by grind[wr,IntKind.wrap,IntKind.bits,IntKind.signed]
theorem AO{n:Int} (h: -9223372036854775808<=n/\n<=9223372036854775807):wr .i64 n=n:=by grind[wr,IntKind.wrap,IntKind.bits,IntKind.signed]
def Jt{α:Type} (l:List α) (n:Nat):idx l (n:Int)=l[n]?:=by simp[idx]
theorem AIB{α:Type} (pre suf:List α) (x:α):idx (pre++x::suf) (pre.length:Int)=some x:=by simp[idx]
def ACD{α:Type}{l pre suf:List α}{x:α} (h:l=pre++x::suf):idx l (pre.length:Int)=some x:=by grind[AIB]
def AcJ{α:Type}{l pre suf:List α}{x:α} (h:l=pre++x::suf):decide ((pre.length:Int)<(l.length:Int))=true:=by subst h;simp only[aq,an,ag];omega
def Rj{α:Type} (pre:List α) (x:α):(pre.length:Int)+1=((pre++[x]).length:Int):=fA
theorem BB{α:Type} (l:List α) (a b:Nat) (h1:a<=b) (h2:b<=l.length):sub l (a:Int) (b:Int)=some ((l.drop a).take (b-a)):=by grind[sub]
theorem AJ{α:Type}{c:Prop} [Decidable c]{x:Option α} (h:c):grd c x=x:=by grind[grd]
def SG{n b:Nat} (h:n<=1000000) (hb:b<=100000):CW n b:=by unfold CW;have:n * b<=1000000 * 100000:=eB h hb;omega
def ApT{α:Type}{n b:Nat}{x:Option α} (h:n<=1000000) (hb:b<=100000):grd (CW n b) x=x:=AJ (SG h hb)
theorem BS{α:Type}{n:Nat}{x:Option α} (h:n<=4611686018427387904):grd (AL n) x=x:=AJ h
theorem AA{α β:Type} (k:α->Option β) (body:(α->Option β)->Option β){d:JD α}:AB k body d=body k:=rfl
def wf_u8{n:Int} (h:(Lit.int .u8 n).wf=true):0<=n/\n<=255:=by simp only[Lit.wf,az,aq]at h;have e1:IntKind.u8.min=0:=fB;have e2:IntKind.u8.max=255:=fB;omega
end Go.VM
namespace Go.VM
theorem I6 (c:UInt8):AC c=(c.toNat:Int):=rfl
theorem JF (c:UInt8):Gu (AC c)=c:=by simp[Gu,AC]
def Ao3{a b:UInt8}:a=b<->a.toNat=b.toNat:=⟨λh=>by rw[h],ch.1⟩
theorem toNat_ofNat{n:Nat} (h:n<256):(UInt8.ofNat n).toNat=n:=by simp_all
def Kl{P:Nat->Prop} [∀n,Decidable (P n)] (h:(List.range 256).all (λn=>decide (P n))=true) (c:UInt8):P c.toNat:=by have:=aR.1 h c.toNat (cq.2 c.toNat_lt);grind
theorem ADs{n:Int} (h:0<=n/\n<256):wr .u8 n=n:=by grind[wr,IntKind.wrap,IntKind.bits,IntKind.signed]
theorem IV{n:Int} (h:0<=n/\n<18446744073709551616):wr .u64 n=n:=by grind[wr,IntKind.wrap,IntKind.bits,IntKind.signed]
def Aoe{x y:Nat} (hx:x<2^62) (hy:y<2^62):I8 .i64 x y=((x|||y:Nat):Int):=by have h:x|||y<2^62:=Nat.or_lt_two_pow hx hy;show IntKind.i64.wrap (((BitVec.ofInt 64 (x:Int)|||BitVec.ofInt 64 (y:Int):BitVec 64).toNat:Nat):Int)=_;grind[IntKind.wrap,IntKind.bits,IntKind.signed]
theorem Ai3{x y:Nat} (hx:x<2^62) (hy:y<2^62):Gi .i64 x y=((x&&&y:Nat):Int):=by have h:x&&&y<2^62:=Nat.and_lt_two_pow _ hy;show IntKind.i64.wrap (((BitVec.ofInt 64 (x:Int)&&&BitVec.ofInt 64 (y:Int):BitVec 64).toNat:Nat):Int)=_;grind[IntKind.wrap,IntKind.bits,IntKind.signed]
def Amb{q y:Nat} (k:Nat) (h:y<2^k):(q * 2^k)|||y=q * 2^k+y:=by rw[<-Nat.shiftLeft_eq,Nat.shiftLeft_add_eq_or_of_lt h]
def WT{q y:Nat} (k:Nat) (h:y<2^k) (hx:q * 2^k<2^62) (hy:y<2^62):I8 .i64 ((q * 2^k:Nat):Int) (y:Int)=((q * 2^k+y:Nat):Int):=by rw[Aoe hx hy,Amb k h]
def Wp{x:Nat} (k:Nat) (hx:x<2^62) (hk:2^k<=2^61):Gi .i64 (x:Int) ((2^k-1:Nat):Int)=((x % 2^k:Nat):Int):=by grind[Nat.one_le_two_pow,Ai3,Nat.and_two_pow_sub_one_eq_mod]
def Tf{x:Nat} (hx:x<2^62):Gi .i64 (x:Int) 63=((x % 64:Nat):Int):=Wp 6 hx fB
def AFg{x k:Nat} (h:k<=64):TC .i64 (x:Int) (k:Int)=((x / 2^k:Nat):Int):=by grind[TC,IntKind.bits]
def Ail{x k:Nat} (h:k<=64) (hx:x * 2^k<2^63):VA .i64 (x:Int) (k:Int)=((x * 2^k:Nat):Int):=by simp only[VA,IntKind.bits,a7];rw[cL h];have:(x:Int) * 2^k=((x * 2^k:Nat):Int):=fA;rw[this];exact Nl (n:=x * 2^k) fy
def ApG{x:Nat}:TC .i64 (x:Int) 6=((x / 64:Nat):Int):=AFg (k:=6) fB
def Apd{x:Nat}:TC .i64 (x:Int) 12=((x / 4096:Nat):Int):=AFg (k:=12) fB
def ApE{x:Nat}:TC .i64 (x:Int) 18=((x / 262144:Nat):Int):=AFg (k:=18) fB
def Aq1{x:Nat} (h:x<2^50):VA .i64 (x:Int) 6=((x * 64:Nat):Int):=Ail (k:=6) fB fy
def Alg{x y:Nat} (h:x<2^50) (hy:y<64):I8 .i64 (VA .i64 (x:Int) 6) (y:Int)=((x * 64+y:Nat):Int):=by rw[Aq1 h];exact WT 6 hy fy fy
def An5{y:Nat} (hy:y<64):I8 .i64 192 (y:Int)=((192+y:Nat):Int):=WT (q:=3) 6 hy fB fy
def YS{y:Nat} (hy:y<64):I8 .i64 128 (y:Int)=((128+y:Nat):Int):=WT (q:=2) 6 hy fB fy
def Amv{y:Nat} (hy:y<32):I8 .i64 224 (y:Int)=((224+y:Nat):Int):=WT (q:=7) 5 hy fB fy
def Anh{y:Nat} (hy:y<16):I8 .i64 240 (y:Int)=((240+y:Nat):Int):=WT (q:=15) 4 hy fB fy
theorem O9{n:Nat}:wr .u8 (n:Int)=((n % 256:Nat):Int):=by grind[wr,IntKind.wrap,IntKind.bits,IntKind.signed]
theorem ANV{n:Nat}:Gu (n:Int)=UInt8.ofNat n:=by simp[Gu]
def Jh:(List.range 256).all (λn=>decide (LY .u8 (n:Int) 127=((n / 128 * 128:Nat):Int)/\LY .u8 (n:Int) 31=((n / 32 * 32:Nat):Int)/\LY .u8 (n:Int) 15=((n / 16 * 16:Nat):Int)/\LY .u8 (n:Int) 7=((n / 8 * 8:Nat):Int)/\Gi .u8 (n:Int) 127=((n % 128:Nat):Int)/\Gi .u8 (n:Int) 31=((n % 32:Nat):Int)/\Gi .u8 (n:Int) 15=((n % 16:Nat):Int)/\Gi .u8 (n:Int) 7=((n % 8:Nat):Int)/\Gi .u8 (n:Int) 192=((n / 64 * 64:Nat):Int)/\Gi .u8 (n:Int) 63=((n % 64:Nat):Int)))=true:=by decide+kernel
def Aps (c:UInt8):LY .u8 (AC c) 127=((c.toNat / 128 * 128:Nat):Int):=(Kl Jh c).1
def Aqg (c:UInt8):LY .u8 (AC c) 31=((c.toNat / 32 * 32:Nat):Int):=(Kl Jh c).2.1
def AQG (c:UInt8):LY .u8 (AC c) 15=((c.toNat / 16 * 16:Nat):Int):=(Kl Jh c).2.2.1
def bn7 (c:UInt8):LY .u8 (AC c) 7=((c.toNat / 8 * 8:Nat):Int):=(Kl Jh c).2.2.2.1
def AqS (c:UInt8):Gi .u8 (AC c) 127=((c.toNat % 128:Nat):Int):=(Kl Jh c).2.2.2.2.1
def b31 (c:UInt8):Gi .u8 (AC c) 31=((c.toNat % 32:Nat):Int):=(Kl Jh c).2.2.2.2.2.1
def b15 (c:UInt8):Gi .u8 (AC c) 15=((c.toNat % 16:Nat):Int):=(Kl Jh c).2.2.2.2.2.2.1
def b7 (c:UInt8):Gi .u8 (AC c) 7=((c.toNat % 8:Nat):Int):=(Kl Jh c).2.2.2.2.2.2.2.1
def ArE (c:UInt8):Gi .u8 (AC c) 192=((c.toNat / 64 * 64:Nat):Int):=(Kl Jh c).2.2.2.2.2.2.2.2.1
def b63 (c:UInt8):Gi .u8 (AC c) 63=((c.toNat % 64:Nat):Int):=(Kl Jh c).2.2.2.2.2.2.2.2.2
end Go.VM
namespace Go.VM
section
variable{N:Nat}
def DL (r:Int):Bool:=decide (0<=r)&&(decide (r<=1114111)&&(decide (r<55296)||decide (r>57343)))
def AFE{r:Int} (h:DL r=true):0<=r/\r<=1114111/\(r<55296\/r>57343):=by grind[DL]
def AXD (r:Int):M7 N r=some (DL r):=by unfold M7 DL;by_cases h1:r>=0<;>by_cases h2:r<=1114111<;>by_cases h3:r<55296<;>simp[h1,h2,h3]
def AET (r:Int):Hw N r=some (DL r):=by unfold Hw DL;by_cases h1:r>=0<;>by_cases h2:r<=1114111<;>by_cases h3:r<55296<;>simp[h1,h2,h3]
def U9 (r:Nat):B8:=if r<128 then [.ofNat r] else if r<2048 then [.ofNat (192+r / 64),.ofNat (128+r % 64)] else if r<65536 then [.ofNat (224+r / 4096),.ofNat (128+r / 64 % 64),.ofNat (128+r % 64)] else [.ofNat (240+r / 262144),.ofNat (128+r / 4096 % 64),.ofNat (128+r / 64 % 64),.ofNat (128+r % 64)]
def encR (r:Int):B8×Int:=if DL r=true then(U9 r.toNat,0)else([],4)
def WQ (r:Int):IU N r=some (encR r):=by
 unfold IU encR;rw[AXD,aa];cases hp:DL r with
 |false=>rfl
 | true=>
  obtain⟨h0,h1,_⟩:=AFE hp;obtain⟨n,rfl⟩: ∃n:Nat,r=n:=⟨r.toNat,fy⟩;simp only[av,letL,a7,U9,aE,bM,ApG,Apd,ApE];by_cases c1:n<128;·have c1':(n:Int)<128:=fy;simp only[c1,c1',bg,av,O9,ANV,bk (show n<256 by omega)]
  ·have c1': ¬(n:Int)<128:=fy;simp only[c1,c1',aT,au,al];by_cases c2:n<2048;·have c2':(n:Int)<2048:=fy;simp only[c2,c2',bg,av];rw[An5 fy,Tf fy,YS fy];grind[O9,ANV,Nat.mod_eq_of_lt]
   ·have c2': ¬(n:Int)<2048:=fy;simp only[c2,c2',aT,au,al];by_cases c3:n<65536;·have c3':(n:Int)<65536:=fy;simp only[c3,c3',bg,av];rw[Amv fy,Tf fy,Tf fy,YS fy,YS fy];simp only[O9,ANV,bk (show 224+n / 4096<256 by omega),bk (show 128+n % 64<256 by omega),bk (show 128+n / 64 % 64<256 by omega)]
    ·have c3': ¬(n:Int)<65536:=fy;simp only[c3,c3',aT,au,al];rw[Anh fy,Tf fy,Tf fy,Tf fy,YS fy,YS fy,YS fy];simp only[O9,ANV,bk (show 240+n / 262144<256 by omega),bk (show 128+n % 64<256 by omega),bk (show 128+n / 64 % 64<256 by omega),bk (show 128+n / 4096 % 64<256 by omega)]
def UO{n j k r:Nat}{bn:List Int}{k14:Int×List Int->Option (B8×Int)} (hj:j<n) (hn:n<=3) (hl:bn.length=n+1) (hr:r<2^62):Az N (n:Int) k14 (k+1) (r:Int) ((j+1:Nat):Int) bn=Az N (n:Int) k14 k ((r / 64:Nat):Int) (j:Int) (bn.set (j+1) ((128+r % 64:Nat):Int)):=by
 rw[Az];have h1:((j+1:Nat):Int)>0:=fy;have h2:wr .i64 ((n:Int)+1)=((n+1:Nat):Int):=by rw[AO fy];simp
 have h3:wr .i64 (((j+1:Nat):Int)-1)=(j:Int):=by rw[AO fy];omega
 have h4:I8 .u8 128 (((r % 64:Nat):Int))=((128+r % 64:Nat):Int):=by
  have:r % 64<64:=dp _ fB;have f:(List.range 64).all (λy=>decide (I8 .u8 128 (y:Int)=((128+y:Nat):Int)))=true:=by decide+kernel
  have:=aR.1 f (r % 64) (cq.2 this);simpa using this
 simp only[h1,bg,av];rw[h2,h3,AJ (by simp only[a7];omega),AJ (by rw[hl];simp only[a7];omega),Tf fy,ApG,O9,bk (show r % 64<256 by omega),h4];simp only[a7]
def AAY{n k:Nat}{r:Int}{bn:List Int}{k14:Int×List Int->Option (B8×Int)}:Az N (n:Int) k14 (k+1) r ((0:Nat):Int) bn=k14 (r,bn):=by rw[Az];rfl
def Ao4{k:Nat}{r:Nat}{k4:Int->Option (B8×Int)}:DN N (r:Int) k4 (k+4) 0=k4 (if r<128 then 0 else if r<2048 then 1 else if r<65536 then 2 else 3):=by
 rw[DN,AA];rw[show idx A7 (wr .i64 (0+1))=some (Utf8textForm.mk 192 31 128)from rfl,aa];simp only[show decide ((0:Int)<3)=true from rfl,av];by_cases c1:r<128;·simp[c1];omega
 have c1':(r:Int)>=128:=fy;simp only[c1,c1',bg,av,au];rw[show wr .i64 (0+1)=1 from rfl,DN,AA];rw[show idx A7 (wr .i64 (1+1))=some (Utf8textForm.mk 224 15 2048)from rfl,aa];simp only[show decide ((1:Int)<3)=true from rfl,av];by_cases c2:r<2048;·simp[c2];omega
 have c2':(r:Int)>=2048:=fy;simp only[c2,c2',bg,av,au];rw[show wr .i64 (1+1)=2 from rfl,DN,AA];rw[show idx A7 (wr .i64 (2+1))=some (Utf8textForm.mk 240 7 65536)from rfl,aa];simp only[show decide ((2:Int)<3)=true from rfl,av];by_cases c3:r<65536;·simp[c3];omega
 have c3':(r:Int)>=65536:=fy;simp only[c3,c3',bg,av,au];rw[show wr .i64 (2+1)=3 from rfl,DN,AA];simp only[show decide ((3:Int)<3)=false from rfl,au,al]
def Pk (hN:4<=N) (r:Int):JH N r=some (encR r):=by
 obtain⟨M,rfl⟩: ∃M,N=M+4:=⟨N-4,fy⟩;unfold JH encR;rw[AET,aa];cases hp:DL r with
 |false=>rfl
 | true=>
  obtain⟨h0,h1,_⟩:=AFE hp;obtain⟨n,rfl⟩: ∃n:Nat,r=n:=⟨r.toNat,fy⟩;have f0: ∀y:Nat,y<128->I8 .u8 0 (y:Int)=(y:Int):=by
   have f:(List.range 128).all (λy=>decide (I8 .u8 0 (y:Int)=(y:Int)))=true:=by decide+kernel
   intro y hy;simpa using aR.1 f y (cq.2 hy)
  have f1: ∀y:Nat,y<32->I8 .u8 192 (y:Int)=((192+y:Nat):Int):=by
   have f:(List.range 32).all (λy=>decide (I8 .u8 192 (y:Int)=((192+y:Nat):Int)))=true:=by decide+kernel
   intro y hy;simpa using aR.1 f y (cq.2 hy)
  have f2: ∀y:Nat,y<16->I8 .u8 224 (y:Int)=((224+y:Nat):Int):=by
   have f:(List.range 16).all (λy=>decide (I8 .u8 224 (y:Int)=((224+y:Nat):Int)))=true:=by decide+kernel
   intro y hy;simpa using aR.1 f y (cq.2 hy)
  have f3: ∀y:Nat,y<8->I8 .u8 240 (y:Int)=((240+y:Nat):Int):=by
   have f:(List.range 8).all (λy=>decide (I8 .u8 240 (y:Int)=((240+y:Nat):Int)))=true:=by decide+kernel
   intro y hy;simpa using aR.1 f y (cq.2 hy)
  simp only[av,AA,Ao4,a7,U9];by_cases c1:n<128;·simp only[c1,av];rw[show Az (M+4) 0=Az (M+4) ((0:Nat):Int)from rfl,show(0:Int)=((0:Nat):Int)from rfl,AAY];simp only[O9];rw[show idx A7 ((0:Nat):Int)=some (Utf8textForm.mk 0 127 0)from rfl,aa,bk (show n<256 by omega)];rw[f0 n c1];rw[show wr .i64 (((0:Nat):Int)+1)=1 from rfl];rw[AJ fB,AJ fB,AJ fB,AJ fB];simp[ANV]
  ·simp only[c1,au];by_cases c2:n<2048;·simp only[c2,av];rw[show Az (M+4) 1=Az (M+4) ((1:Nat):Int)from rfl,show(1:Int)=((0+1:Nat):Int)from rfl];rw[UO fy fy (by rfl) fy,AAY];simp only[O9];rw[show idx A7 ((0+1:Nat):Int)=some (Utf8textForm.mk 192 31 128)from rfl,aa,bk (show n / 64<256 by omega),f1 _ fy];rw[show wr .i64 (((0+1:Nat):Int)+((0+1:Nat):Int))=2 from rfl];rw[AJ fB,AJ fB,AJ fA,AJ (by simp[AL])];rfl
   ·simp only[c2,au];by_cases c3:n<65536;·simp only[c3,av];rw[show Az (M+4) 2=Az (M+4) ((2:Nat):Int)from rfl,show(2:Int)=((1+1:Nat):Int)from rfl];rw[UO fy fy (by rfl) fy,show((1:Nat):Int)=((0+1:Nat):Int)from rfl,UO fy fy (by rfl) fy,AAY];simp only[O9];rw[show idx A7 ((1+1:Nat):Int)=some (Utf8textForm.mk 224 15 2048)from rfl,aa,bk (show n / 64 / 64<256 by omega),f2 _ fy];rw[show wr .i64 (((1+1:Nat):Int)+1)=3 from rfl];rw[AJ fB,AJ fB,AJ fA,AJ (by simp[AL])];simp only[fa];rfl
    ·simp only[c3,au];rw[show Az (M+4) 3=Az (M+4) ((3:Nat):Int)from rfl,show(3:Int)=((2+1:Nat):Int)from rfl];rw[UO fy fy (by rfl) fy,show((2:Nat):Int)=((1+1:Nat):Int)from rfl,UO fy fy (by rfl) fy,show((1:Nat):Int)=((0+1:Nat):Int)from rfl,UO fy fy (by rfl) fy,AAY];simp only[O9];rw[show idx A7 ((2+1:Nat):Int)=some (Utf8textForm.mk 240 7 65536)from rfl,aa,bk (show n / 64 / 64 / 64<256 by omega),f3 _ fy];rw[show wr .i64 (((2+1:Nat):Int)+1)=4 from rfl];rw[AJ fB,AJ fB,AJ fA,AJ (by simp[AL])];simp only[fa];rfl
end
end Go.VM
namespace Go.VM
def Ok{α:Type} (x:Option α) (P:α->Prop):Prop:= ∃a,x=some a/\P a
section
variable{α β:Type}{P:α->Prop}{Q:β->Prop}
theorem Ok.ret{a:α} (h:P a):Ok (some a) P:=⟨a,rfl,h⟩
theorem Ok.bind{x:Option β}{f:β->Option α} (h:Ok x Q) (k: ∀b,Q b->Ok (f b) P):Ok (Option.bind x f) P:=by obtain⟨b,rfl,hb⟩:=h;grind
def Ok.ite{c:Bool}{x y:Option α} (h1:c=true->Ok x P) (h2:c=false->Ok y P):Ok (if c=true then x else y) P:=by
 cases c;·simpa using h2 rfl
 ·simpa using h1 rfl
theorem Ok.grd{c:Prop} [Decidable c]{x:Option α} (hc:c) (h:Ok x P):Ok (grd c x) P:=by grind[AJ]
theorem Ok.join{k:β->Option α}{body:(β->Option α)->Option α}{d:JD β} (hb:Ok (body k) P):Ok (AB k body d) P:=hb
def Ok.meet (J:β->Prop){k:β->Option α}{body:(β->Option α)->Option α}{d:JD β} (hk: ∀b,J b->Ok (k b) P) (hb: ∀k':β->Option α,(∀b,J b->Ok (k' b) P)->Ok (body k') P):Ok (AB k body d) P:=hb k hk
def Ok.letL{x:β}{f:β->Option α} (h:Ok (f x) P):Ok (letL x f) P:=h
def Ok.mono{x:Option α}{P':α->Prop} (h:Ok x P) (k: ∀a,P a->P' a):Ok x P':=by obtain⟨a,e,ha⟩:=h;exact⟨a,e,k a ha⟩
def Ok.eq{x:Option α}{a:α} (h:x=some a):Ok x (· =a):=⟨a,h,rfl⟩
theorem Ok.idx{l:List α}{i:Int} (h0:0<=i) (h1:i<l.length):Ok (idx l i) (λx=>l[i.toNat]?=some x):=by have:i.toNat<l.length:=fy;exact⟨l[i.toNat],by grind[VM.idx],bC this⟩
theorem Ok.sub{l:List α}{a b:Int} (h0:0<=a) (h1:a<=b) (h2:b<=l.length):Ok (sub l a b) (λx=>x=(l.drop a.toNat).take (b.toNat-a.toNat)/\x.length=(b-a).toNat):=by refine⟨_,by grind[VM.sub],rfl,?_⟩;grind
end
end Go.VM
namespace Go.VM
section
variable{N:Nat}
def H8 (c:UInt8):Bool:=decide (c.toNat / 64=2)
def YK:B8->Option (Nat×Nat) |[]=>none| a::t=>if a.toNat<128 then some (a.toNat,1) else if a.toNat / 32=6 then match t with |b::_=>if H8 b=true/\128<=a.toNat % 32 * 64+b.toNat % 64 then some (a.toNat % 32 * 64+b.toNat % 64,2)else none|_=>none else if a.toNat / 16=14 then match t with |b::c::_=>if H8 b=true/\H8 c=true/\2048<=(a.toNat % 16 * 64+b.toNat % 64) * 64+c.toNat % 64/\DL (((a.toNat % 16 * 64+b.toNat % 64) * 64+c.toNat % 64:Nat))=true then some ((a.toNat % 16 * 64+b.toNat % 64) * 64+c.toNat % 64,3)else none|_=>none else if a.toNat / 8=30 then match t with |b::c::d::_=>if H8 b=true/\H8 c=true/\H8 d=true/\65536<=((a.toNat % 8 * 64+b.toNat % 64) * 64+c.toNat % 64) * 64+d.toNat % 64/\DL ((((a.toNat % 8 * 64+b.toNat % 64) * 64+c.toNat % 64) * 64+d.toNat % 64:Nat))=true then some (((a.toNat % 8 * 64+b.toNat % 64) * 64+c.toNat % 64) * 64+d.toNat % 64,4)else none|_=>none else none
def Lt (i:Nat):Option (Nat×Nat)->Int×Int×Int |some (r,n)=>((r:Int),((i+n:Nat):Int),0)|none=>(0,0,7)
def IJ{α:Type}{l t:List α}{x:α}{i j:Nat} (h:l.drop i=t) (hx:t[j]?=some x):idx l ((i+j:Nat):Int)=some x:=by rw[Jt,<-c8,h,hx]
def BM{α:Type}{l t:List α}{i:Nat} (h:l.drop i=t) (hi:i<=l.length):l.length=i+t.length:=by have:=a8 List.length h;grind
section
variable{l t:B8}{i:Nat}{k13:Int->Option (Int×Int×Int)}
def AGc (hi:i+10<=2^60){k m j:Nat}{r:Int} (h:m<j) (hj:j<=5):Aw N l (i:Int) (m:Int) k13 (k+1) r (j:Int)=k13 r:=by rw[Aw];have: ¬(j:Int)<=m:=fy;simp[this]
def Ut (hi:i+10<=2^60){k m j r:Nat}{x:UInt8} (h:j<=m) (hm:m<=3) (ht:l.drop i=t) (hx:t[j]?=some x) (hr:r<2^50):Aw N l (i:Int) (m:Int) k13 (k+1) (r:Int) (j:Int)=if H8 x=true then Aw N l (i:Int) (m:Int) k13 k ((r * 64+x.toNat % 64:Nat):Int) ((j+1:Nat):Int)else some (0,0,7):=by
 rw[Aw];have h1:(j:Int)<=m:=fy;have h2:wr .i64 ((i:Int)+(j:Int))=((i+j:Nat):Int):=by rw[AO fy];simp
 have h3:wr .i64 ((j:Int)+1)=((j+1:Nat):Int):=by rw[AO fy];simp
 have h4:x.toNat % 64<64:=dp _ fB;simp only[h1,bg,av,h2,h3];rw[IJ ht hx,aa,ArE,b63,Nl fy,Alg hr h4];have h5:((((x.toNat / 64 * 64:Nat):Int)) !=128)=!H8 x:=by
  unfold H8;by_cases hc:x.toNat / 64=2;·rw[hc];rfl
  ·have: ¬((x.toNat / 64 * 64:Nat):Int)=128:=fy;simp only[hc,aT,bh,dL,dU];exact this
 rw[h5];cases H8 x<;>simp
theorem AqQ:idx A7 0=some (Utf8textForm.mk 0 127 0):=rfl
theorem Aqb:idx A7 1=some (Utf8textForm.mk 192 31 128):=rfl
theorem AqV:idx A7 2=some (Utf8textForm.mk 224 15 2048):=rfl
theorem Aqf:idx A7 3=some (Utf8textForm.mk 240 7 65536):=rfl
def AWN (i m least r:Nat):Int×Int×Int:=if least<=r/\DL (r:Int)=true then((r:Int),((i+m:Nat):Int),0)else(0,0,7)
def AfF (hN:5<=N) (hi:i<l.length) (hb:l.length+10<=2^60):JB N l (i:Int)=some (Lt i (YK (l.drop i))):=by
 obtain⟨M,rfl⟩: ∃M,N=M+5:=⟨N-5,fy⟩;unfold JB;have c1: ¬((i:Int)<0):=fy;have c2: ¬((i:Int)>=(l.length:Int)):=fy;simp only[AA,c1,c2,aT,al,au];rw[AJ fB];obtain⟨t,ht⟩: ∃t,l.drop i=t:=⟨_,rfl⟩;have hl:=BM ht fy;cases t with
 |nil=>simp at hl;omega
 | cons a t=>
  have ha:idx l (i:Int)=some a:=by have:=IJ (j:=0) ht rfl;simpa using this
  have hat:=a.toNat_lt;simp only[ag]at hl;have hw:wr .i64 (wr .i64 ((l.length:Int)-(i:Int))-1)=((t.length:Nat):Int):=by rw[AO (n:=(l.length:Int)-(i:Int)) fy,AO fy];omega
  have he: ∀m:Nat,m<=3->wr .i64 (wr .i64 ((i:Int)+(m:Int))+1)=((i+(m+1):Nat):Int):=by intro m hm;rw[AO (n:=(i:Int)+(m:Int)) fy,AO fy];omega
  have fin: ∀(m least r:Nat),m<=3->(if decide ((r:Int)<(least:Int))=true then(some (0,0,7):Option (Int×Int×Int))else (Hw (M+5) (r:Int)).bind λy22=>if(!y22)=true then some (0,0,7)else some ((r:Int),wr .i64 (wr .i64 ((i:Int)+(m:Int))+1),0))=some (AWN i (m+1) least r):=by
   intro m least r hm;rw[AET,aa,he m hm];unfold AWN;by_cases h1:least<=r;·have: ¬(r:Int)<least:=fy;cases hp:DL (r:Int)<;>simp[h1,this,hp]
   ·have:(r:Int)<least:=fy;simp[h1,this]
  rw[ht];show Bg (M+5) l (i:Int) _ 4 0=_;rw[Bg,AqQ,aa,ha,aa,Aps,hw];unfold YK;by_cases h1:a.toNat<128
  ·have e1:((a.toNat / 128 * 128:Nat):Int)=0:=fy;have e2: ¬((t.length:Int)<0):=fy;simp only[e1,eK,al,au,e2,aT,AA,h1,av];rw[AqS,bk h1,Nl fy];rw[show Aw (M+5) l (i:Int) 0=Aw (M+5) l (i:Int) ((0:Nat):Int)from rfl,show(1:Int)=((1:Nat):Int)from rfl,AGc fy fy fy];have:=fin 0 0 a.toNat fy;rw[show((0:Nat):Int)=0 from rfl]at this;rw[show((1:Nat):Int)=1 from rfl,this];have hp:DL (a.toNat:Int)=true:=by simp[DL];omega
   simp[AWN,hp,Lt]
  ·have e1 : (((a.toNat / 128 * 128:Nat):Int) !=0)=true:=by have: ¬((a.toNat / 128 * 128:Nat):Int)=0:=fy;simpa using this
   simp only[e1,av,h1,au];rw[show(0:Int)+1=1 from rfl,Bg,Aqb,aa,ha,aa,Aqg,hw];by_cases h2:a.toNat / 32=6
   ·rw [h2];simp only[show(((6 * 32:Nat):Int) !=192)=false from rfl,al,au,av];cases t with
    |nil=>simp[Lt]
    | cons b t=>
     have e2: ¬((((b::t).length:Nat):Int)<1):=by simp only[ag];omega
     simp only[e2,aT,al,au,AA];rw[b31,Nl fy];rw[show Aw (M+5) l (i:Int) 1=Aw (M+5) l (i:Int) ((1:Nat):Int)from rfl,show(1:Int)=((1:Nat):Int)from rfl];rw[Ut fy (aw _) fy ht rfl fy];cases hc:H8 b with
     |false=>simp[hc,Lt]
     | true=>
      simp only[av,cM];rw[AGc fy fy fy];have:=fin 1 128 (a.toNat % 32 * 64+b.toNat % 64) fy;rw[show((1:Nat):Int)=1 from rfl]at this;rw[show((1:Nat):Int)=1 from rfl];refine this.trans ?_;have hp:DL ((a.toNat % 32 * 64+b.toNat % 64:Nat):Int)=true:=by have:a.toNat % 32<32:=dp _ fB;have:b.toNat % 64<64:=dp _ fB;simp[DL];omega
      simp only[AWN,hp,cT];split<;>simp[Lt]
   ·have e1 : (((a.toNat / 32 * 32:Nat):Int) !=192)=true:=by have: ¬((a.toNat / 32 * 32:Nat):Int)=192:=fy;simpa using this
    simp only[e1,av,h2,au];rw[show(1:Int)+1=2 from rfl,Bg,AqV,aa,ha,aa,AQG,hw];by_cases h3:a.toNat / 16=14
    ·rw [h3];simp only[show(((14 * 16:Nat):Int) !=224)=false from rfl,al,au,av];match t,ht,hl with
     |[],ht,hl=>simp[Lt]
     |[b],ht,hl=>simp[Lt]
     | b::c::t,ht,hl=>
      have e2: ¬((((b::c::t).length:Nat):Int)<2):=by simp only[ag];omega
      simp only[e2,aT,al,au,AA];rw[b15,Nl fy];rw[show Aw (M+5) l (i:Int) 2=Aw (M+5) l (i:Int) ((2:Nat):Int)from rfl,show(1:Int)=((1:Nat):Int)from rfl];rw[Ut fy fy fy ht rfl fy];cases hc:H8 b with |false=>simp[hc,Lt]| true=>simp only[av,cM];rw[Ut fy fy fy ht rfl fy];cases hc2:H8 c with |false=>simp[hc2,Lt]| true=>simp only[av,cM];rw[AGc fy fy fy];have:=fin 2 2048 ((a.toNat % 16 * 64+b.toNat % 64) * 64+c.toNat % 64) fy;rw[show((2:Nat):Int)=2 from rfl]at this;refine this.trans ?_;simp only[AWN];split<;>simp[Lt]
    ·have e1:(((a.toNat / 16 * 16:Nat):Int) !=224)=true:=by have: ¬((a.toNat / 16 * 16:Nat):Int)=224:=fy;simpa using this
     simp only[e1,av,h3,au];rw[show(2:Int)+1=3 from rfl,Bg,Aqf,aa,ha,aa,bn7,hw];by_cases h4:a.toNat / 8=30
     ·rw [h4];simp only[show(((30 * 8:Nat):Int) !=240)=false from rfl,al,au,av];match t,ht,hl with
      |[],ht,hl=>simp[Lt]
      |[b],ht,hl=>simp[Lt]
      |[b,c],ht,hl=>simp[Lt]
      | b::c::d::t,ht,hl=>
       have e2: ¬((((b::c::d::t).length:Nat):Int)<3):=by simp only[ag];omega
       simp only[e2,aT,al,au,AA];rw[b7,Nl fy];rw[show Aw (M+5) l (i:Int) 3=Aw (M+5) l (i:Int) ((3:Nat):Int)from rfl,show(1:Int)=((1:Nat):Int)from rfl];rw[Ut fy fy fy ht rfl fy];cases hc:H8 b with |false=>simp[hc,Lt]| true=>simp only[av,cM];rw[Ut fy fy fy ht rfl fy];cases hc2:H8 c with |false=>simp[hc2,Lt]| true=>simp only[av,cM];rw[Ut fy fy fy ht rfl fy];cases hc3:H8 d with |false=>simp[hc3,Lt]| true=>simp only[av,cM];rw[AGc fy fy fy];have:=fin 3 65536 (((a.toNat % 8 * 64+b.toNat % 64) * 64+c.toNat % 64) * 64+d.toNat % 64) fy;rw[show((3:Nat):Int)=3 from rfl]at this;refine this.trans ?_;simp only[AWN];split<;>simp[Lt]
     ·have e1:(((a.toNat / 8 * 8:Nat):Int) !=240)=true:=by have: ¬((a.toNat / 8 * 8:Nat):Int)=240:=fy;simpa using this
      simp only[e1,av,h4,au];rw[Bg];rfl
end
end
end Go.VM
namespace Go.VM
section
variable{N:Nat}
def Aqa{a:Nat} (h:a<256):Gi .i64 (a:Int) 31=((a % 32:Nat):Int):=Wp 5 fy fB
def Aq5{a:Nat} (h:a<256):Gi .i64 (a:Int) 15=((a % 16:Nat):Int):=Wp 4 fy fB
def b7'{a:Nat} (h:a<256):Gi .i64 (a:Int) 7=((a % 8:Nat):Int):=Wp 3 fy fB
def YE{x:B8}{k4:Int->Option Int}{k j r:Nat}{c:UInt8} (hx:x[j]?=some c) (hr:r<2^50):Cs N x k4 (k+1) (j:Int) (r:Int)=Cs N x k4 k ((j+1:Nat):Int) ((r * 64+c.toNat % 64:Nat):Int):=by have hc:=c.toNat_lt;rw[Cs,Jt,hx,aa,I6,Nl fy,Tf fy,Alg hr (dp _ fB)];simp
def ADl:B8->Nat |[a]=>a.toNat|[a,b]=>a.toNat % 32 * 64+b.toNat % 64|[a,b,c]=>(a.toNat % 16 * 64+b.toNat % 64) * 64+c.toNat % 64|[a,b,c,d]=>((a.toNat % 8 * 64+b.toNat % 64) * 64+c.toNat % 64) * 64+d.toNat % 64|_=>0
def AW4 (x:B8) (h0:0<x.length) (h4:x.length<=4):Ic N x=some (ADl x:Int):=by match x,h0,h4 with | [a],_,_=>have ha:=a.toNat_lt;unfold Ic;rw[show((([a]:B8).length:Int)==1)=true from rfl,ah rfl,show idx [a] 0=some a from rfl,aa,I6,Nl fy];rfl| [a,b],_,_=>have ha:=a.toNat_lt;unfold Ic;rw[show((([a,b]:B8).length:Int)==1)=false from rfl,ae fB,show idx [a,b] 0=some a from rfl,aa,I6];rw[AJ (by show¬((5:Int)<0);decide),AA,AJ fy,Nl fy];rw[show wr .i64 (VA .i64 1 (wr .i64 (7-(([a,b]:B8).length:Int)))-1)=31 from rfl,Aqa fy];rw[show((([a,b]:B8).length:Int)-1).toNat=0+1 from rfl,show(1:Int)=((1:Nat):Int)from rfl];rw[YE (c:=b) rfl fy,Cs];rfl| [a,b,c],_,_=>have ha:=a.toNat_lt;unfold Ic;rw[show((([a,b,c]:B8).length:Int)==1)=false from rfl,ae fB,show idx [a,b,c] 0=some a from rfl,aa,I6];rw[AJ (by show¬((4:Int)<0);decide),AA,AJ fy,Nl fy];rw[show wr .i64 (VA .i64 1 (wr .i64 (7-(([a,b,c]:B8).length:Int)))-1)=15 from rfl,Aq5 fy];rw[show((([a,b,c]:B8).length:Int)-1).toNat=0+1+1 from rfl,show(1:Int)=((1:Nat):Int)from rfl];rw[YE (c:=b) rfl fy,YE (c:=c) rfl fy,Cs];rfl| [a,b,c,d],_,_=>have ha:=a.toNat_lt;unfold Ic;rw[show((([a,b,c,d]:B8).length:Int)==1)=false from rfl,ae fB,show idx [a,b,c,d] 0=some a from rfl,aa,I6];rw[AJ (by show¬((3:Int)<0);decide),AA,AJ fy,Nl fy];rw[show wr .i64 (VA .i64 1 (wr .i64 (7-(([a,b,c,d]:B8).length:Int)))-1)=7 from rfl,b7' fy];rw[show((([a,b,c,d]:B8).length:Int)-1).toNat=0+1+1+1 from rfl,show(1:Int)=((1:Nat):Int)from rfl];rw[YE (c:=b) rfl fy,YE (c:=c) rfl fy,YE (c:=d) rfl fy,Cs];rfl
def ACt (x:B8):Bool:=DL (ADl x:Int)&&(U9 (ADl x)==x)
def AAH{l:B8}{i j k:Nat}{k6:Unit->Option (Int×Int×Int)} (hi:i+10<=2^60) (h1:1<=j) (h4:j<=4):Cx N l (i:Int) k6 (k+1) (j:Int)=if i+j<=l.length then(if ACt ((l.drop i).take j)=true then some ((ADl ((l.drop i).take j):Int),((i+j:Nat):Int),0)else Cx N l (i:Int) k6 k ((j+1:Nat):Int))else k6 ():=by
 rw[Cx,AA];have e1:(j:Int)<=4:=fy;have e2:wr .i64 ((i:Int)+(j:Int))=((i+j:Nat):Int):=by grind[AO]
 have e3:wr .i64 ((j:Int)+1)=((j+1:Nat):Int):=by grind[AO]
 simp only[e1,bg,av,e2,e3];by_cases h:i+j<=l.length
 ·have h':((i+j:Nat):Int)<=(l.length:Int):=fy;simp only[h,h',bg,av];rw[BB l i (i+j) fy h,aa,bf];have hl:((l.drop i).take j).length=j:=by grind
  rw[AW4 _ fy fy,aa,WQ,aa,AA];unfold ACt encR;cases hp:DL (ADl ((l.drop i).take j):Int)<;>simp_all[DL,ADl]
 ·have h': ¬((i+j:Nat):Int)<=(l.length:Int):=fy;simp only[h,h',aT,au,al]
def ANg (a:UInt8):ACt [a]=true<->a.toNat<128:=by
 have ha:=a.toNat_lt;have hp:DL (a.toNat:Int)=true:=by grind[DL]
 simp only[ACt,ADl,hp,bF,U9];by_cases h:a.toNat<128;·simp[h]
 grind
theorem AE4{n:Nat}{a:UInt8} (h:n<256):UInt8.ofNat n=a<->n=a.toNat:=by rw[Ao3,toNat_ofNat h]
def ABR (b:UInt8):H8 b=true<->128+b.toNat % 64=b.toNat:=by have:=b.toNat_lt;simp only[H8,aq];omega
def hit2 (a b:UInt8):ACt [a,b]=true<->a.toNat / 32=6/\H8 b=true/\128<=a.toNat % 32 * 64+b.toNat % 64:=by
 have ha:=a.toNat_lt;have hb:=b.toNat_lt;have hp:DL ((a.toNat % 32 * 64+b.toNat % 64:Nat):Int)=true:=by grind[DL]
 simp only[ACt,ADl,hp,bF,U9,ABR];by_cases h:a.toNat % 32 * 64+b.toNat % 64<128;·grind
 ·have h2:a.toNat % 32 * 64+b.toNat % 64<2048:=fy;simp only[h,h2,av,au,bA,bY,cT];grind[AE4]
def hit3 (a b c:UInt8):ACt [a,b,c]=true<->a.toNat / 16=14/\H8 b=true/\H8 c=true/\2048<=(a.toNat % 16 * 64+b.toNat % 64) * 64+c.toNat % 64/\DL (((a.toNat % 16 * 64+b.toNat % 64) * 64+c.toNat % 64:Nat))=true:=by
 have ha:=a.toNat_lt;have hb:=b.toNat_lt;have hc:=c.toNat_lt;simp only[ACt,ADl,U9,ABR,az];by_cases h0:(a.toNat % 16 * 64+b.toNat % 64) * 64+c.toNat % 64<128;·grind
 by_cases h1:(a.toNat % 16 * 64+b.toNat % 64) * 64+c.toNat % 64<2048;·grind
 ·have h2:(a.toNat % 16 * 64+b.toNat % 64) * 64+c.toNat % 64<65536:=fy;simp only[h0,h1,h2,av,au,bA,bY,cT];grind[AE4]
def AfK (a b c d:UInt8):ACt [a,b,c,d]=true<->a.toNat / 8=30/\H8 b=true/\H8 c=true/\H8 d=true/\65536<=((a.toNat % 8 * 64+b.toNat % 64) * 64+c.toNat % 64) * 64+d.toNat % 64/\DL ((((a.toNat % 8 * 64+b.toNat % 64) * 64+c.toNat % 64) * 64+d.toNat % 64:Nat))=true:=by
 have ha:=a.toNat_lt;have hb:=b.toNat_lt;have hc:=c.toNat_lt;have hd:=d.toNat_lt;simp only[ACt,ADl,U9,ABR,az];by_cases h0:((a.toNat % 8 * 64+b.toNat % 64) * 64+c.toNat % 64) * 64+d.toNat % 64<128;·grind
 by_cases h1:((a.toNat % 8 * 64+b.toNat % 64) * 64+c.toNat % 64) * 64+d.toNat % 64<2048;·grind
 by_cases h2:((a.toNat % 8 * 64+b.toNat % 64) * 64+c.toNat % 64) * 64+d.toNat % 64<65536;·grind
 ·simp only[h0,h1,h2,av,au,bA,bY,cT];rw[AE4 fy,AE4 fy,AE4 fy,AE4 fy];constructor;·grind
  ·rintro⟨h,h',h'',h3,_,hp⟩;exact⟨hp,fy,fy,fy,fy⟩
def AjB{l:B8}{i k:Nat}{k6:Unit->Option (Int×Int×Int)}:Cx N l (i:Int) k6 (k+1) ((4+1:Nat):Int)=k6 ():=by grind[Cx,AA]
def IG{b:Bool}{p:Prop} (h:b=true<->p) (k: ¬p):b=false:=by simp_all
def Adk{l:B8}{i:Nat} (hN:5<=N) (hi:i<l.length) (hb:l.length+10<=2^60):KV N l (i:Int)=some (Lt i (YK (l.drop i))):=by
 obtain⟨M,rfl⟩: ∃M,N=M+1+1+1+1+1:=⟨N-5,fy⟩;unfold KV;have c1: ¬((i:Int)<0):=fy;have c2: ¬((i:Int)>=(l.length:Int)):=fy;simp only[AA,c1,c2,aT,al,au];rw[show(1:Int)=((1:Nat):Int)from rfl,AAH fy fy fy,AAH fy fy fy,AAH fy fy fy,AAH fy fy fy,AjB];obtain⟨t,ht⟩: ∃t,l.drop i=t:=⟨_,rfl⟩;have hl:=BM ht fy;rw[ht];match t,hl with
 |[],hl=>grind
 | [a],hl=>
  simp only[ag,ap]at hl;have e1:i+1<=l.length:=fy;have e2: ¬i+(1+1)<=l.length:=fy;simp only[e1,e2,av,au,List.take];simp only[YK];by_cases h1:a.toNat<128;·rw[ah ((ANg a).2 h1),ah h1];rfl
  ·rw[IG (ANg a) h1];grind[Lt]
 | [a,b],hl=>
  simp only[ag,ap]at hl;have e1:i+1<=l.length:=fy;have e2:i+(1+1)<=l.length:=fy;have e3: ¬i+(1+1+1)<=l.length:=fy;simp only[e1,e2,e3,av,au,List.take];simp only[YK];by_cases h1:a.toNat<128;·rw[ah ((ANg a).2 h1),ah h1];rfl
  ·rw[IG (ANg a) h1];simp only[al,au,h1];by_cases h2:a.toNat / 32=6
   ·simp only[h2,av];by_cases k:H8 b=true/\128<=a.toNat % 32 * 64+b.toNat % 64;·rw[ah ((hit2 a b).2 ⟨h2,k⟩),ah k];rfl
    ·rw[IG (hit2 a b) (λh=>k h.2),ae k];rfl
   ·rw[IG (hit2 a b) (λh=>h2 h.1)];simp_all[Lt]
 | [a,b,c],hl=>
  simp only[ag,ap]at hl;have e1:i+1<=l.length:=fy;have e2:i+(1+1)<=l.length:=fy;have e3:i+(1+1+1)<=l.length:=fy;have e4: ¬i+(1+1+1+1)<=l.length:=fy;simp only[e1,e2,e3,e4,av,au,List.take];simp only[YK];by_cases h1:a.toNat<128;·rw[ah ((ANg a).2 h1),ah h1];rfl
  ·rw [IG (ANg a) h1];simp only[al,au,h1];by_cases h2:a.toNat / 32=6
   ·have h3: ¬a.toNat / 16=14:=fy;simp only[h2,av,IG (hit3 a b c) (λh=>h3 h.1),al,au];by_cases k:H8 b=true/\128<=a.toNat % 32 * 64+b.toNat % 64;·rw[ah ((hit2 a b).2 ⟨h2,k⟩),ah k];rfl
    ·rw[IG (hit2 a b) (λh=>k h.2),ae k];rfl
   ·rw[IG (hit2 a b) (λh=>h2 h.1)];simp only[al,au,h2];by_cases h3:a.toNat / 16=14
    ·simp only[h3,av];by_cases k:H8 b=true/\H8 c=true/\2048<=(a.toNat % 16 * 64+b.toNat % 64) * 64+c.toNat % 64/\DL (((a.toNat % 16 * 64+b.toNat % 64) * 64+c.toNat % 64:Nat))=true;·rw[ah ((hit3 a b c).2 ⟨h3,k⟩),ah k];rfl
     ·rw[ae (λe=>k ((hit3 a b c).1 e).2),ae k];rfl
    ·rw[IG (hit3 a b c) (λh=>h3 h.1)];simp_all[Lt]
 | a::b::c::d::t,hl=>
  simp only[ag]at hl;have e1:i+1<=l.length:=fy;have e2:i+(1+1)<=l.length:=fy;have e3:i+(1+1+1)<=l.length:=fy;have e4:i+(1+1+1+1)<=l.length:=fy;rw[show List.take 1 (a::b::c::d::t)=[a]from rfl,show List.take (1+1) (a::b::c::d::t)=[a,b]from rfl,show List.take (1+1+1) (a::b::c::d::t)=[a,b,c]from rfl,show List.take (1+1+1+1) (a::b::c::d::t)=[a,b,c,d]from rfl];simp only[e1,e2,e3,e4,av,au];simp only[YK];by_cases h1:a.toNat<128;·rw[ah ((ANg a).2 h1),ah h1];rfl
  ·rw [IG (ANg a) h1];simp only[al,au,h1];by_cases h2:a.toNat / 32=6
   ·have h3: ¬a.toNat / 16=14:=fy;have h4: ¬a.toNat / 8=30:=fy;simp only[h2,av,IG (hit3 a b c) (λh=>h3 h.1),IG (AfK a b c d) (λh=>h4 h.1),al,au];by_cases k:H8 b=true/\128<=a.toNat % 32 * 64+b.toNat % 64;·rw[ah ((hit2 a b).2 ⟨h2,k⟩),ah k];rfl
    ·rw[IG (hit2 a b) (λh=>k h.2),ae k];rfl
   ·rw [IG (hit2 a b) (λh=>h2 h.1)];simp only[al,au,h2];by_cases h3:a.toNat / 16=14
    ·have h4: ¬a.toNat / 8=30:=fy;simp only[h3,av,IG (AfK a b c d) (λh=>h4 h.1),al,au];by_cases k:H8 b=true/\H8 c=true/\2048<=(a.toNat % 16 * 64+b.toNat % 64) * 64+c.toNat % 64/\DL (((a.toNat % 16 * 64+b.toNat % 64) * 64+c.toNat % 64:Nat))=true;·rw[ah ((hit3 a b c).2 ⟨h3,k⟩),ah k];rfl
     ·rw[ae (λe=>k ((hit3 a b c).1 e).2),ae k];rfl
    ·rw[IG (hit3 a b c) (λh=>h3 h.1)];simp only[al,au,h3];by_cases h4:a.toNat / 8=30
     ·simp only[h4,av];by_cases k:H8 b=true/\H8 c=true/\H8 d=true/\65536<=((a.toNat % 8 * 64+b.toNat % 64) * 64+c.toNat % 64) * 64+d.toNat % 64/\DL ((((a.toNat % 8 * 64+b.toNat % 64) * 64+c.toNat % 64) * 64+d.toNat % 64:Nat))=true;·rw[ah ((AfK a b c d).2 ⟨h4,k⟩),ah k];rfl
      ·rw[ae (λe=>k ((AfK a b c d).1 e).2),ae k];rfl
     ·rw[ae (λe=>h4 ((AfK a b c d).1 e).1),ae h4];rfl
end
end Go.VM
namespace Go.VM
section
variable{N:Nat}
def BH{α:Type} [DecidableEq α]{f g:Nat->α} (h:(List.range 256).all (λn=>decide (f n=g n))=true) (c:UInt8):f c.toNat=g c.toNat:=by have:=aR.1 h c.toNat (cq.2 c.toNat_lt);grind
def Td (n:Nat):Bool:=(decide (48<=n)&&decide (n<=57))||(decide (65<=n)&&decide (n<=70))||(decide (97<=n)&&decide (n<=102))
def Jr (c:UInt8):Bool:=Td c.toNat
def Ep (n:Nat):Nat:=if n<=57 then n-48 else if n<=70 then n-55 else n-87
def R5 (c:UInt8) (h:Jr c=true):Ep c.toNat<16:=by simp only[Jr,Td,bE,az,aq]at h;unfold Ep;split<;>(grind)<;>omega
def AGK (c:UInt8):K7 N (AC c)=some (Jr c):=BH (f:=λn=>K7 N (n:Int)) (g:=λn=>some (Td n)) (by kernel_rfl) c
def AGw (c:UInt8):Ie N (AC c)=some (Jr c):=BH (f:=λn=>Ie N (n:Int)) (g:=λn=>some (Td n)) (by kernel_rfl) c
def AVy (c:UInt8) (h:Jr c=true):Lm N (AC c)=some ((Ep c.toNat:Nat):Int):=by have:=BH (f:=λn=>if Td n=true then Lm N (n:Int)else none) (g:=λn=>if Td n=true then some ((Ep n:Nat):Int)else none) (by kernel_rfl) c;simp only[show Td c.toNat=true from h,av]at this;exact this
def AlT (c:UInt8) (h:Jr c=true):(if decide (AC c>57)=true then wr .u64 (wr .u64 (wr .u64 (I8 .u8 (AC c) 32)-97)+10)else wr .u64 (wr .u8 (AC c-48)))=((Ep c.toNat:Nat):Int):=by have:=BH (f:=λn=>if Td n=true then(if decide ((n:Int)>57)=true then wr .u64 (wr .u64 (wr .u64 (I8 .u8 (n:Int) 32)-97)+10)else wr .u64 (wr .u8 ((n:Int)-48)))else 0) (g:=λn=>if Td n=true then((Ep n:Nat):Int)else 0) (by kernel_rfl) c;simp only[show Td c.toNat=true from h,av]at this;exact this
def AAd (n:Nat):B8->Nat |[]=>n|c::l=>AAd (n * 16+Ep c.toNat) l
def Wm: ∀(l:B8) (n:Nat),l.all Jr=true->AAd n l<(n+1) * 16^l.length |[],n,_=>by simp[AAd]| c::l,n,h=>by simp only[aI,az]at h;have:=Wm l (n * 16+Ep c.toNat) h.2;have hd:=R5 c h.1;rw[AAd,ag,fu];have e:(n * 16+Ep c.toNat+1) * 16^l.length<=(n+1) * 16 * 16^l.length:=bV _ fy;grind
def Alu (k2:Unit->Option (Int×Int)): ∀l:B8,BQ N k2 l=if l.all Jr=true then k2 ()else some (0,1) |[]=>by rw[BQ];rfl| c::l=>by rw[BQ,AGK,aa,Alu k2 l];cases h:Jr c<;>simp[h]
def Als (k2:Unit->Option (Int×Int)): ∀l:B8,Co N 16 k2 l=if l.all Jr=true then k2 ()else some (0,1) |[]=>by grind[Co]| c::l=>by rw[Co,AA,show((16:Int)==10)=false from rfl,show((16:Int)==16)=true from rfl];simp only[al,au,av];rw[AGw,aa,Als k2 l];cases h:Jr c<;>simp[h]
def Al1 (k9:Int->Option (Int×Int)): ∀(l:B8) (n:Nat),l.all Jr=true->(n+1) * 16^l.length<=65536->BR N 16 65535 k9 l (n:Int)=k9 ((AAd n l:Nat):Int)
 |[],n,_,_=>by rw[BR];rfl
 | c::l,n,h,hn=>by
  simp only[aI,az]at h;have hd:=R5 c h.1;have hv:=Wm [] (n * 16+Ep c.toNat) rfl;rw[ag,fu]at hn;have hp:1<=16^l.length:=Nat.one_le_pow _ _ fB;have e:(n * 16+Ep c.toNat+1) * 16^l.length<=65536:=by
   have e1:(n * 16+Ep c.toNat+1) * 16^l.length<=(n+1) * 16 * 16^l.length:=bV _ fy;have e2:(n+1) * 16 * 16^l.length=(n+1) * (16^l.length * 16):=by rw[Nat.mul_assoc,Nat.mul_comm 16]
   omega
  have e3:n * 16+Ep c.toNat+1<=65536:=by have:(n * 16+Ep c.toNat+1) * 1<=(n * 16+Ep c.toNat+1) * 16^l.length:=ef _ hp;omega
  rw[BR,AVy c h.1,aa,AA,AJ fB];have w1:wr .u64 ((n:Int) * 16)=((n * 16:Nat):Int):=by rw[IV fy];simp
  have w2:wr .u64 (((n * 16:Nat):Int)+((Ep c.toNat:Nat):Int))=((n * 16+Ep c.toNat:Nat):Int):=by rw[IV fy];simp
  have w3:wr .u64 (18446744073709551615-((Ep c.toNat:Nat):Int))=18446744073709551615-((Ep c.toNat:Nat):Int):=IV fy;rw[w1,w2,w3,bW fy,IV fy];have c1: ¬((n:Int)>(18446744073709551615-((Ep c.toNat:Nat):Int)) / 16):=fy;have c2: ¬(((n * 16+Ep c.toNat:Nat):Int)>65535):=fy;simp only[c1,c2,aT,al,au];rw[Al1 k9 l _ h.2 e];rfl
def Alp (k9:Int->Option (Int×Int)): ∀(l:B8) (n:Nat),l.all Jr=true->(n+1) * 16^l.length<=65536->Bd N 16 65535 k9 l (n:Int)=k9 ((AAd n l:Nat):Int)
 |[],n,_,_=>by rw[Bd];rfl
 | c::l,n,h,hn=>by
  simp only[aI,az]at h;have hd:=R5 c h.1;rw[ag,fu]at hn;have hp:1<=16^l.length:=Nat.one_le_pow _ _ fB;have e:(n * 16+Ep c.toNat+1) * 16^l.length<=65536:=by have e1:(n * 16+Ep c.toNat+1) * 16^l.length<=(n+1) * 16 * 16^l.length:=bV _ fy;grind
  have e3:n * 16+Ep c.toNat+1<=65536:=by have:(n * 16+Ep c.toNat+1) * 1<=(n * 16+Ep c.toNat+1) * 16^l.length:=ef _ hp;omega
  rw[Bd];simp only[AA];have hv:=AlT c h.1;have key: ∀v:Int,v=((Ep c.toNat:Nat):Int)->(grd ((16:Int)≠0) (if decide ((n:Int)>wr .u64 ((65535:Int).tdiv 16))=true then if true=true then(some (0,4):Option (Int×Int))else Bd N 16 65535 k9 l (wr .u64 (wr .u64 ((n:Int) * 16)+v))else if decide (wr .u64 ((n:Int) * 16)>wr .u64 (65535-v))=true then if true=true then some (0,4)else Bd N 16 65535 k9 l (wr .u64 (wr .u64 ((n:Int) * 16)+v))else if decide (v>65535)=true then some (0,4)else Bd N 16 65535 k9 l (wr .u64 (wr .u64 ((n:Int) * 16)+v))))=k9 ((AAd (n * 16+Ep c.toNat) l:Nat):Int):=by
   rintro v rfl;rw[AJ fB,show wr .u64 ((65535:Int).tdiv 16)=4095 from rfl];have w1:wr .u64 ((n:Int) * 16)=((n * 16:Nat):Int):=by grind[IV]
   have w2:wr .u64 (((n * 16:Nat):Int)+((Ep c.toNat:Nat):Int))=((n * 16+Ep c.toNat:Nat):Int):=by grind[IV]
   have w3:wr .u64 (65535-((Ep c.toNat:Nat):Int))=65535-((Ep c.toNat:Nat):Int):=IV fy;rw[w1,w2,w3];have c1: ¬((n:Int)>4095):=fy;have c2: ¬(((n * 16:Nat):Int)>65535-((Ep c.toNat:Nat):Int)):=fy;have c3: ¬(((Ep c.toNat:Nat):Int)>65535):=fy;simp only[c1,c2,c3,aT,al,au];exact Alp k9 l _ h.2 e
  rw[AAd];by_cases hc:AC c>57;·simp_all
  ·simp only[hc,aT,al,au]at hv⊢;grind
def AN2 (l:B8):Int×Int:=if l.all Jr=true then((AAd 0 l:Nat),0)else(0,1)
def Ad1 (l:B8) (h0:l≠ []) (h4:l.length<=4):QG N l 65535=some (AN2 l):=by
 unfold QG Gq AN2;have e:(l==[])=false:=by simpa using h0
 rw[e];simp only[al,au,AA];rw[AJ (by unfold AL;omega),AJ (by unfold AL;omega),Alu];by_cases h:l.all Jr=true;·rw[ah h,ah h,show(0:Int)=((0:Nat):Int)from rfl,Al1 _ l 0 h (by have:16^l.length<=16^4:=Nat.pow_le_pow_right fB h4;omega)];rfl
 ·rw[ae h,ae h];rfl
def AeY (l:B8) (h0:l≠ []) (h4:l.length<=4):Ny N l 65535=some (AN2 l):=by
 unfold Ny KJ AN2;have e:(l==[])=false:=by grind
 rw[e];simp only[al,au,AA];rw[AJ (by grind[AL]),AJ (by grind[AL]),Als];by_cases h:l.all Jr=true;·rw[ah h,ah h,show(0:Int)=((0:Nat):Int)from rfl,Alp _ l 0 h (by have:16^l.length<=16^4:=Nat.pow_le_pow_right fB h4;omega)];rfl
 ·rw[ae h,ae h];rfl
end
end Go.VM
