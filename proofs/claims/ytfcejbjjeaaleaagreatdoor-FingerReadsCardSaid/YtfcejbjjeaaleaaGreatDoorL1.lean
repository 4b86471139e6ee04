import GoSem.Claim
import Derived.Test.YtfcejbjjeaaleaaGreatDoorDefs
import Derived.KernelRfl
set_option linter.defProp false
set_option linter.unusedVariables false
set_option linter.unusedSimpArgs false
namespace Go.VM
def OU{n:Nat} (h:n<=9223372036854775807):wr .i64 (n:Int)=n:=by grind[wr,IntKind.wrap,IntKind.bits,IntKind.signed]
theorem AO{n:Int} (h: -9223372036854775808<=n/\n<=9223372036854775807):wr .i64 n=n:=by grind[wr,IntKind.wrap,IntKind.bits,IntKind.signed]
def Ji{α:Type} (l:List α) (n:Nat):idx l (n:Int)=l[n]?:=by simp[idx]
theorem AKT{α:Type} (pre suf:List α) (x:α):idx (pre++x::suf) (pre.length:Int)=some x:=by simp[idx]
def ADL{α:Type}{l pre suf:List α}{x:α} (h:l=pre++x::suf):idx l (pre.length:Int)=some x:=by grind[AKT]
def AiS{α:Type}{l pre suf:List α}{x:α} (h:l=pre++x::suf):decide ((pre.length:Int)<(l.length:Int))=true:=by subst h;simp only[au,an,ag];omega
def SF{α:Type} (pre:List α) (x:α):(pre.length:Int)+1=((pre++[x]).length:Int):=fH
theorem BA{α:Type} (l:List α) (a b:Nat) (h1:a<=b) (h2:b<=l.length):sub l (a:Int) (b:Int)=some ((l.drop a).take (b-a)):=by grind[sub]
theorem AJ{α:Type}{c:Prop} [Decidable c]{x:Option α} (h:c):grd c x=x:=by grind[grd]
def TF{n b:Nat} (h:n<=1000000) (hb:b<=100000):BR n b:=by unfold BR;have:n * b<=1000000 * 100000:=eJ h hb;omega
def APw{α:Type}{n b:Nat}{x:Option α} (h:n<=1000000) (hb:b<=100000):grd (BR n b) x=x:=AJ (TF h hb)
theorem BV{α:Type}{n:Nat}{x:Option α} (h:n<=4611686018427387904):grd (AL n) x=x:=AJ h
theorem AA{α β:Type} (k:α->Option β) (body:(α->Option β)->Option β){d:JD α}:AB k body d=body k:=rfl
def wf_u8{n:Int} (h:(Lit.int .u8 n).wf=true):0<=n/\n<=255:=by simp only[Lit.wf,az,au]at h;have e1:IntKind.u8.min=0:=fI;have e2:IntKind.u8.max=255:=fI;omega
end Go.VM
namespace Go.VM
theorem JC (c:UInt8):AC c=(c.toNat:Int):=rfl
theorem JW (c:UInt8):Ha (AC c)=c:=by simp[Ha,AC]
def Asd{a b:UInt8}:a=b<->a.toNat=b.toNat:=⟨λh=>by rw[h],cn.1⟩
theorem toNat_ofNat{n:Nat} (h:n<256):(UInt8.ofNat n).toNat=n:=by simp_all
def LB{P:Nat->Prop} [∀n,Decidable (P n)] (h:(List.range 256).all (λn=>decide (P n))=true) (c:UInt8):P c.toNat:=by have:=aS.1 h c.toNat (cy.2 c.toNat_lt);grind
theorem AGM{n:Int} (h:0<=n/\n<256):wr .u8 n=n:=by grind[wr,IntKind.wrap,IntKind.bits,IntKind.signed]
theorem IC{n:Int} (h:0<=n/\n<18446744073709551616):wr .u64 n=n:=by grind[wr,IntKind.wrap,IntKind.bits,IntKind.signed]
def ArJ{x y:Nat} (hx:x<2^62) (hy:y<2^62):JQ .i64 x y=((x|||y:Nat):Int):=by have h:x|||y<2^62:=Nat.or_lt_two_pow hx hy;show IntKind.i64.wrap (((BitVec.ofInt 64 (x:Int)|||BitVec.ofInt 64 (y:Int):BitVec 64).toNat:Nat):Int)=_;grind[IntKind.wrap,IntKind.bits,IntKind.signed]
theorem An2{x y:Nat} (hx:x<2^62) (hy:y<2^62):Gw .i64 x y=((x&&&y:Nat):Int):=by have h:x&&&y<2^62:=Nat.and_lt_two_pow _ hy;show IntKind.i64.wrap (((BitVec.ofInt 64 (x:Int)&&&BitVec.ofInt 64 (y:Int):BitVec 64).toNat:Nat):Int)=_;grind[IntKind.wrap,IntKind.bits,IntKind.signed]
def ArK{q y:Nat} (k:Nat) (h:y<2^k):(q * 2^k)|||y=q * 2^k+y:=by rw[<-Nat.shiftLeft_eq,Nat.shiftLeft_add_eq_or_of_lt h]
def Xg{q y:Nat} (k:Nat) (h:y<2^k) (hx:q * 2^k<2^62) (hy:y<2^62):JQ .i64 ((q * 2^k:Nat):Int) (y:Int)=((q * 2^k+y:Nat):Int):=by rw[ArJ hx hy,ArK k h]
def X7{x:Nat} (k:Nat) (hx:x<2^62) (hk:2^k<=2^61):Gw .i64 (x:Int) ((2^k-1:Nat):Int)=((x % 2^k:Nat):Int):=by grind[Nat.one_le_two_pow,An2,Nat.and_two_pow_sub_one_eq_mod]
def Us{x:Nat} (hx:x<2^62):Gw .i64 (x:Int) 63=((x % 64:Nat):Int):=X7 6 hx fI
def AMX{x k:Nat} (h:k<=64):UC .i64 (x:Int) (k:Int)=((x / 2^k:Nat):Int):=by grind[UC,IntKind.bits]
def Anj{x k:Nat} (h:k<=64) (hx:x * 2^k<2^63):Vy .i64 (x:Int) (k:Int)=((x * 2^k:Nat):Int):=by simp only[Vy,IntKind.bits,bc];rw[cR h];have:(x:Int) * 2^k=((x * 2^k:Nat):Int):=fH;rw[this];exact OU (n:=x * 2^k) fG
def AtC{x:Nat}:UC .i64 (x:Int) 6=((x / 64:Nat):Int):=AMX (k:=6) fI
def Ass{x:Nat}:UC .i64 (x:Int) 12=((x / 4096:Nat):Int):=AMX (k:=12) fI
def AsO{x:Nat}:UC .i64 (x:Int) 18=((x / 262144:Nat):Int):=AMX (k:=18) fI
def At6{x:Nat} (h:x<2^50):Vy .i64 (x:Int) 6=((x * 64:Nat):Int):=Anj (k:=6) fI fG
def Aod{x y:Nat} (h:x<2^50) (hy:y<64):JQ .i64 (Vy .i64 (x:Int) 6) (y:Int)=((x * 64+y:Nat):Int):=by rw[At6 h];exact Xg 6 hy fG fG
def ApN{y:Nat} (hy:y<64):JQ .i64 192 (y:Int)=((192+y:Nat):Int):=Xg (q:=3) 6 hy fI fG
def Zc{y:Nat} (hy:y<64):JQ .i64 128 (y:Int)=((128+y:Nat):Int):=Xg (q:=2) 6 hy fI fG
def Apq{y:Nat} (hy:y<32):JQ .i64 224 (y:Int)=((224+y:Nat):Int):=Xg (q:=7) 5 hy fI fG
def Ap8{y:Nat} (hy:y<16):JQ .i64 240 (y:Int)=((240+y:Nat):Int):=Xg (q:=15) 4 hy fI fG
theorem Pn{n:Nat}:wr .u8 (n:Int)=((n % 256:Nat):Int):=by grind[wr,IntKind.wrap,IntKind.bits,IntKind.signed]
theorem APU{n:Nat}:Ha (n:Int)=UInt8.ofNat n:=by simp[Ha]
def J8:(List.range 256).all (λn=>decide (L8 .u8 (n:Int) 127=((n / 128 * 128:Nat):Int)/\L8 .u8 (n:Int) 31=((n / 32 * 32:Nat):Int)/\L8 .u8 (n:Int) 15=((n / 16 * 16:Nat):Int)/\L8 .u8 (n:Int) 7=((n / 8 * 8:Nat):Int)/\Gw .u8 (n:Int) 127=((n % 128:Nat):Int)/\Gw .u8 (n:Int) 31=((n % 32:Nat):Int)/\Gw .u8 (n:Int) 15=((n % 16:Nat):Int)/\Gw .u8 (n:Int) 7=((n % 8:Nat):Int)/\Gw .u8 (n:Int) 192=((n / 64 * 64:Nat):Int)/\Gw .u8 (n:Int) 63=((n % 64:Nat):Int)))=true:=by decide+kernel
def Ar9 (c:UInt8):L8 .u8 (AC c) 127=((c.toNat / 128 * 128:Nat):Int):=(LB J8 c).1
def AuC (c:UInt8):L8 .u8 (AC c) 31=((c.toNat / 32 * 32:Nat):Int):=(LB J8 c).2.1
def AOw (c:UInt8):L8 .u8 (AC c) 15=((c.toNat / 16 * 16:Nat):Int):=(LB J8 c).2.2.1
def bn7 (c:UInt8):L8 .u8 (AC c) 7=((c.toNat / 8 * 8:Nat):Int):=(LB J8 c).2.2.2.1
def AuE (c:UInt8):Gw .u8 (AC c) 127=((c.toNat % 128:Nat):Int):=(LB J8 c).2.2.2.2.1
def b31 (c:UInt8):Gw .u8 (AC c) 31=((c.toNat % 32:Nat):Int):=(LB J8 c).2.2.2.2.2.1
def b15 (c:UInt8):Gw .u8 (AC c) 15=((c.toNat % 16:Nat):Int):=(LB J8 c).2.2.2.2.2.2.1
def b7 (c:UInt8):Gw .u8 (AC c) 7=((c.toNat % 8:Nat):Int):=(LB J8 c).2.2.2.2.2.2.2.1
def AuX (c:UInt8):Gw .u8 (AC c) 192=((c.toNat / 64 * 64:Nat):Int):=(LB J8 c).2.2.2.2.2.2.2.2.1
def b63 (c:UInt8):Gw .u8 (AC c) 63=((c.toNat % 64:Nat):Int):=(LB J8 c).2.2.2.2.2.2.2.2.2
end Go.VM
namespace Go.VM
section
variable{N:Nat}
def DX (r:Int):Bool:=decide (0<=r)&&(decide (r<=1114111)&&(decide (r<55296)||decide (r>57343)))
def AF7{r:Int} (h:DX r=true):0<=r/\r<=1114111/\(r<55296\/r>57343):=by grind[DX]
def AZD (r:Int):Nz N r=some (DX r):=by unfold Nz DX;by_cases h1:r>=0<;>by_cases h2:r<=1114111<;>by_cases h3:r<55296<;>simp[h1,h2,h3]
def AFH (r:Int):IQ N r=some (DX r):=by unfold IQ DX;by_cases h1:r>=0<;>by_cases h2:r<=1114111<;>by_cases h3:r<55296<;>simp[h1,h2,h3]
def Vm (r:Nat):B8:=if r<128 then [.ofNat r] else if r<2048 then [.ofNat (192+r / 64),.ofNat (128+r % 64)] else if r<65536 then [.ofNat (224+r / 4096),.ofNat (128+r / 64 % 64),.ofNat (128+r % 64)] else [.ofNat (240+r / 262144),.ofNat (128+r / 4096 % 64),.ofNat (128+r / 64 % 64),.ofNat (128+r % 64)]
def encR (r:Int):B8×Int:=if DX r=true then(Vm r.toNat,0)else([],4)
def YR (r:Int):Im N r=some (encR r):=by
 unfold Im encR;rw[AZD,aa];cases hp:DX r with
 |false=>rfl
 | true=>
  obtain⟨h0,h1,_⟩:=AF7 hp;obtain⟨n,rfl⟩: ∃n:Nat,r=n:=⟨r.toNat,fG⟩;simp only[av,letL,bc,Vm,aE,bU,AtC,Ass,AsO];by_cases c1:n<128;·have c1':(n:Int)<128:=fG;simp only[c1,c1',bl,av,Pn,APU,bo (show n<256 by omega)]
  ·have c1': ¬(n:Int)<128:=fG;simp only[c1,c1',aX,aq,aj];by_cases c2:n<2048;·have c2':(n:Int)<2048:=fG;simp only[c2,c2',bl,av];rw[ApN fG,Us fG,Zc fG];grind[Pn,APU,Nat.mod_eq_of_lt]
   ·have c2': ¬(n:Int)<2048:=fG;simp only[c2,c2',aX,aq,aj];by_cases c3:n<65536;·have c3':(n:Int)<65536:=fG;simp only[c3,c3',bl,av];rw[Apq fG,Us fG,Us fG,Zc fG,Zc fG];simp only[Pn,APU,bo (show 224+n / 4096<256 by omega),bo (show 128+n % 64<256 by omega),bo (show 128+n / 64 % 64<256 by omega)]
    ·have c3': ¬(n:Int)<65536:=fG;simp only[c3,c3',aX,aq,aj];rw[Ap8 fG,Us fG,Us fG,Us fG,Zc fG,Zc fG,Zc fG];simp only[Pn,APU,bo (show 240+n / 262144<256 by omega),bo (show 128+n % 64<256 by omega),bo (show 128+n / 64 % 64<256 by omega),bo (show 128+n / 4096 % 64<256 by omega)]
def VC{n j k r:Nat}{bn:List Int}{k14:Int×List Int->Option (B8×Int)} (hj:j<n) (hn:n<=3) (hl:bn.length=n+1) (hr:r<2^62):Ay N (n:Int) k14 (k+1) (r:Int) ((j+1:Nat):Int) bn=Ay N (n:Int) k14 k ((r / 64:Nat):Int) (j:Int) (bn.set (j+1) ((128+r % 64:Nat):Int)):=by
 rw[Ay];have h1:((j+1:Nat):Int)>0:=fG;have h2:wr .i64 ((n:Int)+1)=((n+1:Nat):Int):=by rw[AO fG];simp
 have h3:wr .i64 (((j+1:Nat):Int)-1)=(j:Int):=by rw[AO fG];omega
 have h4:JQ .u8 128 (((r % 64:Nat):Int))=((128+r % 64:Nat):Int):=by
  have:r % 64<64:=dz _ fI;have f:(List.range 64).all (λy=>decide (JQ .u8 128 (y:Int)=((128+y:Nat):Int)))=true:=by decide+kernel
  have:=aS.1 f (r % 64) (cy.2 this);simpa using this
 simp only[h1,bl,av];rw[h2,h3,AJ (by simp only[bc];omega),AJ (by rw[hl];simp only[bc];omega),Us fG,AtC,Pn,bo (show r % 64<256 by omega),h4];simp only[bc]
def ABZ{n k:Nat}{r:Int}{bn:List Int}{k14:Int×List Int->Option (B8×Int)}:Ay N (n:Int) k14 (k+1) r ((0:Nat):Int) bn=k14 (r,bn):=by rw[Ay];rfl
def As3{k:Nat}{r:Nat}{k4:Int->Option (B8×Int)}:DW N (r:Int) k4 (k+4) 0=k4 (if r<128 then 0 else if r<2048 then 1 else if r<65536 then 2 else 3):=by
 rw[DW,AA];rw[show idx Aw (wr .i64 (0+1))=some (Utf8textForm.mk 192 31 128)from rfl,aa];simp only[show decide ((0:Int)<3)=true from rfl,av];by_cases c1:r<128;·simp[c1];omega
 have c1':(r:Int)>=128:=fG;simp only[c1,c1',bl,av,aq];rw[show wr .i64 (0+1)=1 from rfl,DW,AA];rw[show idx Aw (wr .i64 (1+1))=some (Utf8textForm.mk 224 15 2048)from rfl,aa];simp only[show decide ((1:Int)<3)=true from rfl,av];by_cases c2:r<2048;·simp[c2];omega
 have c2':(r:Int)>=2048:=fG;simp only[c2,c2',bl,av,aq];rw[show wr .i64 (1+1)=2 from rfl,DW,AA];rw[show idx Aw (wr .i64 (2+1))=some (Utf8textForm.mk 240 7 65536)from rfl,aa];simp only[show decide ((2:Int)<3)=true from rfl,av];by_cases c3:r<65536;·simp[c3];omega
 have c3':(r:Int)>=65536:=fG;simp only[c3,c3',bl,av,aq];rw[show wr .i64 (2+1)=3 from rfl,DW,AA];simp only[show decide ((3:Int)<3)=false from rfl,aq,aj]
def QU (hN:4<=N) (r:Int):JX N r=some (encR r):=by
 obtain⟨M,rfl⟩: ∃M,N=M+4:=⟨N-4,fG⟩;unfold JX encR;rw[AFH,aa];cases hp:DX r with
 |false=>rfl
 | true=>
  obtain⟨h0,h1,_⟩:=AF7 hp;obtain⟨n,rfl⟩: ∃n:Nat,r=n:=⟨r.toNat,fG⟩;have f0: ∀y:Nat,y<128->JQ .u8 0 (y:Int)=(y:Int):=by
   have f:(List.range 128).all (λy=>decide (JQ .u8 0 (y:Int)=(y:Int)))=true:=by decide+kernel
   intro y hy;simpa using aS.1 f y (cy.2 hy)
  have f1: ∀y:Nat,y<32->JQ .u8 192 (y:Int)=((192+y:Nat):Int):=by
   have f:(List.range 32).all (λy=>decide (JQ .u8 192 (y:Int)=((192+y:Nat):Int)))=true:=by decide+kernel
   intro y hy;simpa using aS.1 f y (cy.2 hy)
  have f2: ∀y:Nat,y<16->JQ .u8 224 (y:Int)=((224+y:Nat):Int):=by
   have f:(List.range 16).all (λy=>decide (JQ .u8 224 (y:Int)=((224+y:Nat):Int)))=true:=by decide+kernel
   intro y hy;simpa using aS.1 f y (cy.2 hy)
  have f3: ∀y:Nat,y<8->JQ .u8 240 (y:Int)=((240+y:Nat):Int):=by
   have f:(List.range 8).all (λy=>decide (JQ .u8 240 (y:Int)=((240+y:Nat):Int)))=true:=by decide+kernel
   intro y hy;simpa using aS.1 f y (cy.2 hy)
  simp only[av,AA,As3,bc,Vm];by_cases c1:n<128;·simp only[c1,av];rw[show Ay (M+4) 0=Ay (M+4) ((0:Nat):Int)from rfl,show(0:Int)=((0:Nat):Int)from rfl,ABZ];simp only[Pn];rw[show idx Aw ((0:Nat):Int)=some (Utf8textForm.mk 0 127 0)from rfl,aa,bo (show n<256 by omega)];rw[f0 n c1];rw[show wr .i64 (((0:Nat):Int)+1)=1 from rfl];rw[AJ fI,AJ fI,AJ fI,AJ fI];simp[APU]
  ·simp only[c1,aq];by_cases c2:n<2048;·simp only[c2,av];rw[show Ay (M+4) 1=Ay (M+4) ((1:Nat):Int)from rfl,show(1:Int)=((0+1:Nat):Int)from rfl];rw[VC fG fG (by rfl) fG,ABZ];simp only[Pn];rw[show idx Aw ((0+1:Nat):Int)=some (Utf8textForm.mk 192 31 128)from rfl,aa,bo (show n / 64<256 by omega),f1 _ fG];rw[show wr .i64 (((0+1:Nat):Int)+((0+1:Nat):Int))=2 from rfl];rw[AJ fI,AJ fI,AJ fH,AJ (by simp[AL])];rfl
   ·simp only[c2,aq];by_cases c3:n<65536;·simp only[c3,av];rw[show Ay (M+4) 2=Ay (M+4) ((2:Nat):Int)from rfl,show(2:Int)=((1+1:Nat):Int)from rfl];rw[VC fG fG (by rfl) fG,show((1:Nat):Int)=((0+1:Nat):Int)from rfl,VC fG fG (by rfl) fG,ABZ];simp only[Pn];rw[show idx Aw ((1+1:Nat):Int)=some (Utf8textForm.mk 224 15 2048)from rfl,aa,bo (show n / 64 / 64<256 by omega),f2 _ fG];rw[show wr .i64 (((1+1:Nat):Int)+1)=3 from rfl];rw[AJ fI,AJ fI,AJ fH,AJ (by simp[AL])];simp only[fg];rfl
    ·simp only[c3,aq];rw[show Ay (M+4) 3=Ay (M+4) ((3:Nat):Int)from rfl,show(3:Int)=((2+1:Nat):Int)from rfl];rw[VC fG fG (by rfl) fG,show((2:Nat):Int)=((1+1:Nat):Int)from rfl,VC fG fG (by rfl) fG,show((1:Nat):Int)=((0+1:Nat):Int)from rfl,VC fG fG (by rfl) fG,ABZ];simp only[Pn];rw[show idx Aw ((2+1:Nat):Int)=some (Utf8textForm.mk 240 7 65536)from rfl,aa,bo (show n / 64 / 64 / 64<256 by omega),f3 _ fG];rw[show wr .i64 (((2+1:Nat):Int)+1)=4 from rfl];rw[AJ fI,AJ fI,AJ fH,AJ (by simp[AL])];simp only[fg];rfl
end
end Go.VM
namespace Go.VM
def Ok{α:Type} (x:Option α) (P:α->Prop):Prop:= ∃a,x=some a/\P a
section
variable{α β:Type}{P:α->Prop}{Q:β->Prop}
theorem Ok.ret{a:α} (h:P a):Ok (some a) P:=⟨a,rfl,h⟩
theorem Ok.bind{x:Option β}{f:β->Option α} (h:Ok x Q) (k: ∀b,Q b->Ok (f b) P):Ok (Option.bind x f) P:=by obtain⟨b,rfl,hb⟩:=h;grind
def Ok.ite{c:Bool}{x y:Option α} (h1:c=true->Ok x P) (h2:c=false->Ok y P):Ok (if c=true then x else y) P:=by
 cases c;·simpa using h2 rfl
 ·simpa using h1 rfl
theorem Ok.grd{c:Prop} [Decidable c]{x:Option α} (hc:c) (h:Ok x P):Ok (grd c x) P:=by grind[AJ]
theorem Ok.join{k:β->Option α}{body:(β->Option α)->Option α}{d:JD β} (hb:Ok (body k) P):Ok (AB k body d) P:=hb
def Ok.meet (J:β->Prop){k:β->Option α}{body:(β->Option α)->Option α}{d:JD β} (hk: ∀b,J b->Ok (k b) P) (hb: ∀k':β->Option α,(∀b,J b->Ok (k' b) P)->Ok (body k') P):Ok (AB k body d) P:=hb k hk
def Ok.letL{x:β}{f:β->Option α} (h:Ok (f x) P):Ok (letL x f) P:=h
def Ok.mono{x:Option α}{P':α->Prop} (h:Ok x P) (k: ∀a,P a->P' a):Ok x P':=by obtain⟨a,e,ha⟩:=h;exact⟨a,e,k a ha⟩
def Ok.eq{x:Option α}{a:α} (h:x=some a):Ok x (· =a):=⟨a,h,rfl⟩
theorem Ok.idx{l:List α}{i:Int} (h0:0<=i) (h1:i<l.length):Ok (idx l i) (λx=>l[i.toNat]?=some x):=by have:i.toNat<l.length:=fG;exact⟨l[i.toNat],by grind[VM.idx],bF this⟩
theorem Ok.sub{l:List α}{a b:Int} (h0:0<=a) (h1:a<=b) (h2:b<=l.length):Ok (sub l a b) (λx=>x=(l.drop a.toNat).take (b.toNat-a.toNat)/\x.length=(b-a).toNat):=by refine⟨_,by grind[VM.sub],rfl,?_⟩;grind
end
end Go.VM
namespace Go.VM
section
variable{N:Nat}
def IY (c:UInt8):Bool:=decide (c.toNat / 64=2)
def Zn:B8->Option (Nat×Nat) |[]=>none| a::t=>if a.toNat<128 then some (a.toNat,1) else if a.toNat / 32=6 then match t with |b::_=>if IY b=true/\128<=a.toNat % 32 * 64+b.toNat % 64 then some (a.toNat % 32 * 64+b.toNat % 64,2)else none|_=>none else if a.toNat / 16=14 then match t with |b::c::_=>if IY b=true/\IY c=true/\2048<=(a.toNat % 16 * 64+b.toNat % 64) * 64+c.toNat % 64/\DX (((a.toNat % 16 * 64+b.toNat % 64) * 64+c.toNat % 64:Nat))=true then some ((a.toNat % 16 * 64+b.toNat % 64) * 64+c.toNat % 64,3)else none|_=>none else if a.toNat / 8=30 then match t with |b::c::d::_=>if IY b=true/\IY c=true/\IY d=true/\65536<=((a.toNat % 8 * 64+b.toNat % 64) * 64+c.toNat % 64) * 64+d.toNat % 64/\DX ((((a.toNat % 8 * 64+b.toNat % 64) * 64+c.toNat % 64) * 64+d.toNat % 64:Nat))=true then some (((a.toNat % 8 * 64+b.toNat % 64) * 64+c.toNat % 64) * 64+d.toNat % 64,4)else none|_=>none else none
def Mf (i:Nat):Option (Nat×Nat)->Int×Int×Int |some (r,n)=>((r:Int),((i+n:Nat):Int),0)|none=>(0,0,7)
def Ie{α:Type}{l t:List α}{x:α}{i j:Nat} (h:l.drop i=t) (hx:t[j]?=some x):idx l ((i+j:Nat):Int)=some x:=by rw[Ji,<-dm,h,hx]
def BO{α:Type}{l t:List α}{i:Nat} (h:l.drop i=t) (hi:i<=l.length):l.length=i+t.length:=by have:=bg List.length h;grind
section
variable{l t:B8}{i:Nat}{k13:Int->Option (Int×Int×Int)}
def AJO (hi:i+10<=2^60){k m j:Nat}{r:Int} (h:m<j) (hj:j<=5):Az N l (i:Int) (m:Int) k13 (k+1) r (j:Int)=k13 r:=by rw[Az];have: ¬(j:Int)<=m:=fG;simp[this]
def U9 (hi:i+10<=2^60){k m j r:Nat}{x:UInt8} (h:j<=m) (hm:m<=3) (ht:l.drop i=t) (hx:t[j]?=some x) (hr:r<2^50):Az N l (i:Int) (m:Int) k13 (k+1) (r:Int) (j:Int)=if IY x=true then Az N l (i:Int) (m:Int) k13 k ((r * 64+x.toNat % 64:Nat):Int) ((j+1:Nat):Int)else some (0,0,7):=by
 rw[Az];have h1:(j:Int)<=m:=fG;have h2:wr .i64 ((i:Int)+(j:Int))=((i+j:Nat):Int):=by rw[AO fG];simp
 have h3:wr .i64 ((j:Int)+1)=((j+1:Nat):Int):=by rw[AO fG];simp
 have h4:x.toNat % 64<64:=dz _ fI;simp only[h1,bl,av,h2,h3];rw[Ie ht hx,aa,AuX,b63,OU fG,Aod hr h4];have h5:((((x.toNat / 64 * 64:Nat):Int)) !=128)=!IY x:=by
  unfold IY;by_cases hc:x.toNat / 64=2;·rw[hc];rfl
  ·have: ¬((x.toNat / 64 * 64:Nat):Int)=128:=fG;simp only[hc,aX,aL,dQ,dY];exact this
 rw[h5];cases IY x<;>simp
theorem AuW:idx Aw 0=some (Utf8textForm.mk 0 127 0):=rfl
theorem Atv:idx Aw 1=some (Utf8textForm.mk 192 31 128):=rfl
theorem AuM:idx Aw 2=some (Utf8textForm.mk 224 15 2048):=rfl
theorem Atm:idx Aw 3=some (Utf8textForm.mk 240 7 65536):=rfl
def AaW (i m least r:Nat):Int×Int×Int:=if least<=r/\DX (r:Int)=true then((r:Int),((i+m:Nat):Int),0)else(0,0,7)
def Afw (hN:5<=N) (hi:i<l.length) (hb:l.length+10<=2^60):JY N l (i:Int)=some (Mf i (Zn (l.drop i))):=by
 obtain⟨M,rfl⟩: ∃M,N=M+5:=⟨N-5,fG⟩;unfold JY;have c1: ¬((i:Int)<0):=fG;have c2: ¬((i:Int)>=(l.length:Int)):=fG;simp only[AA,c1,c2,aX,aj,aq];rw[AJ fI];obtain⟨t,ht⟩: ∃t,l.drop i=t:=⟨_,rfl⟩;have hl:=BO ht fG;cases t with
 |nil=>simp at hl;omega
 | cons a t=>
  have ha:idx l (i:Int)=some a:=by have:=Ie (j:=0) ht rfl;simpa using this
  have hat:=a.toNat_lt;simp only[ag]at hl;have hw:wr .i64 (wr .i64 ((l.length:Int)-(i:Int))-1)=((t.length:Nat):Int):=by rw[AO (n:=(l.length:Int)-(i:Int)) fG,AO fG];omega
  have he: ∀m:Nat,m<=3->wr .i64 (wr .i64 ((i:Int)+(m:Int))+1)=((i+(m+1):Nat):Int):=by intro m hm;rw[AO (n:=(i:Int)+(m:Int)) fG,AO fG];omega
  have fin: ∀(m least r:Nat),m<=3->(if decide ((r:Int)<(least:Int))=true then(some (0,0,7):Option (Int×Int×Int))else (IQ (M+5) (r:Int)).bind λy22=>if(!y22)=true then some (0,0,7)else some ((r:Int),wr .i64 (wr .i64 ((i:Int)+(m:Int))+1),0))=some (AaW i (m+1) least r):=by
   intro m least r hm;rw[AFH,aa,he m hm];unfold AaW;by_cases h1:least<=r;·have: ¬(r:Int)<least:=fG;cases hp:DX (r:Int)<;>simp[h1,this,hp]
   ·have:(r:Int)<least:=fG;simp[h1,this]
  rw[ht];show Bo (M+5) l (i:Int) _ 4 0=_;rw[Bo,AuW,aa,ha,aa,Ar9,hw];unfold Zn;by_cases h1:a.toNat<128
  ·have e1:((a.toNat / 128 * 128:Nat):Int)=0:=fG;have e2: ¬((t.length:Int)<0):=fG;simp only[e1,eS,aj,aq,e2,aX,AA,h1,av];rw[AuE,bo h1,OU fG];rw[show Az (M+5) l (i:Int) 0=Az (M+5) l (i:Int) ((0:Nat):Int)from rfl,show(1:Int)=((1:Nat):Int)from rfl,AJO fG fG fG];have:=fin 0 0 a.toNat fG;rw[show((0:Nat):Int)=0 from rfl]at this;rw[show((1:Nat):Int)=1 from rfl,this];have hp:DX (a.toNat:Int)=true:=by simp[DX];omega
   simp[AaW,hp,Mf]
  ·have e1 : (((a.toNat / 128 * 128:Nat):Int) !=0)=true:=by have: ¬((a.toNat / 128 * 128:Nat):Int)=0:=fG;simpa using this
   simp only[e1,av,h1,aq];rw[show(0:Int)+1=1 from rfl,Bo,Atv,aa,ha,aa,AuC,hw];by_cases h2:a.toNat / 32=6
   ·rw [h2];simp only[show(((6 * 32:Nat):Int) !=192)=false from rfl,aj,aq,av];cases t with
    |nil=>simp[Mf]
    | cons b t=>
     have e2: ¬((((b::t).length:Nat):Int)<1):=by simp only[ag];omega
     simp only[e2,aX,aj,aq,AA];rw[b31,OU fG];rw[show Az (M+5) l (i:Int) 1=Az (M+5) l (i:Int) ((1:Nat):Int)from rfl,show(1:Int)=((1:Nat):Int)from rfl];rw[U9 fG (aw _) fG ht rfl fG];cases hc:IY b with
     |false=>simp[hc,Mf]
     | true=>
      simp only[av,cS];rw[AJO fG fG fG];have:=fin 1 128 (a.toNat % 32 * 64+b.toNat % 64) fG;rw[show((1:Nat):Int)=1 from rfl]at this;rw[show((1:Nat):Int)=1 from rfl];refine this.trans ?_;have hp:DX ((a.toNat % 32 * 64+b.toNat % 64:Nat):Int)=true:=by have:a.toNat % 32<32:=dz _ fI;have:b.toNat % 64<64:=dz _ fI;simp[DX];omega
      simp only[AaW,hp,da];split<;>simp[Mf]
   ·have e1 : (((a.toNat / 32 * 32:Nat):Int) !=192)=true:=by have: ¬((a.toNat / 32 * 32:Nat):Int)=192:=fG;simpa using this
    simp only[e1,av,h2,aq];rw[show(1:Int)+1=2 from rfl,Bo,AuM,aa,ha,aa,AOw,hw];by_cases h3:a.toNat / 16=14
    ·rw [h3];simp only[show(((14 * 16:Nat):Int) !=224)=false from rfl,aj,aq,av];match t,ht,hl with
     |[],ht,hl=>simp[Mf]
     |[b],ht,hl=>simp[Mf]
     | b::c::t,ht,hl=>
      have e2: ¬((((b::c::t).length:Nat):Int)<2):=by simp only[ag];omega
      simp only[e2,aX,aj,aq,AA];rw[b15,OU fG];rw[show Az (M+5) l (i:Int) 2=Az (M+5) l (i:Int) ((2:Nat):Int)from rfl,show(1:Int)=((1:Nat):Int)from rfl];rw[U9 fG fG fG ht rfl fG];cases hc:IY b with |false=>simp[hc,Mf]| true=>simp only[av,cS];rw[U9 fG fG fG ht rfl fG];cases hc2:IY c with |false=>simp[hc2,Mf]| true=>simp only[av,cS];rw[AJO fG fG fG];have:=fin 2 2048 ((a.toNat % 16 * 64+b.toNat % 64) * 64+c.toNat % 64) fG;rw[show((2:Nat):Int)=2 from rfl]at this;refine this.trans ?_;simp only[AaW];split<;>simp[Mf]
    ·have e1:(((a.toNat / 16 * 16:Nat):Int) !=224)=true:=by have: ¬((a.toNat / 16 * 16:Nat):Int)=224:=fG;simpa using this
     simp only[e1,av,h3,aq];rw[show(2:Int)+1=3 from rfl,Bo,Atm,aa,ha,aa,bn7,hw];by_cases h4:a.toNat / 8=30
     ·rw [h4];simp only[show(((30 * 8:Nat):Int) !=240)=false from rfl,aj,aq,av];match t,ht,hl with
      |[],ht,hl=>simp[Mf]
      |[b],ht,hl=>simp[Mf]
      |[b,c],ht,hl=>simp[Mf]
      | b::c::d::t,ht,hl=>
       have e2: ¬((((b::c::d::t).length:Nat):Int)<3):=by simp only[ag];omega
       simp only[e2,aX,aj,aq,AA];rw[b7,OU fG];rw[show Az (M+5) l (i:Int) 3=Az (M+5) l (i:Int) ((3:Nat):Int)from rfl,show(1:Int)=((1:Nat):Int)from rfl];rw[U9 fG fG fG ht rfl fG];cases hc:IY b with |false=>simp[hc,Mf]| true=>simp only[av,cS];rw[U9 fG fG fG ht rfl fG];cases hc2:IY c with |false=>simp[hc2,Mf]| true=>simp only[av,cS];rw[U9 fG fG fG ht rfl fG];cases hc3:IY d with |false=>simp[hc3,Mf]| true=>simp only[av,cS];rw[AJO fG fG fG];have:=fin 3 65536 (((a.toNat % 8 * 64+b.toNat % 64) * 64+c.toNat % 64) * 64+d.toNat % 64) fG;rw[show((3:Nat):Int)=3 from rfl]at this;refine this.trans ?_;simp only[AaW];split<;>simp[Mf]
     ·have e1:(((a.toNat / 8 * 8:Nat):Int) !=240)=true:=by have: ¬((a.toNat / 8 * 8:Nat):Int)=240:=fG;simpa using this
      simp only[e1,av,h4,aq];rw[Bo];rfl
end
end
end Go.VM
namespace Go.VM
section
variable{N:Nat}
def Ata{a:Nat} (h:a<256):Gw .i64 (a:Int) 31=((a % 32:Nat):Int):=X7 5 fG fI
def Atr{a:Nat} (h:a<256):Gw .i64 (a:Int) 15=((a % 16:Nat):Int):=X7 4 fG fI
def b7'{a:Nat} (h:a<256):Gw .i64 (a:Int) 7=((a % 8:Nat):Int):=X7 3 fG fI
def ZR{x:B8}{k4:Int->Option Int}{k j r:Nat}{c:UInt8} (hx:x[j]?=some c) (hr:r<2^50):Cq N x k4 (k+1) (j:Int) (r:Int)=Cq N x k4 k ((j+1:Nat):Int) ((r * 64+c.toNat % 64:Nat):Int):=by have hc:=c.toNat_lt;rw[Cq,Ji,hx,aa,JC,OU fG,Us fG,Aod hr (dz _ fI)];simp
def AEM:B8->Nat |[a]=>a.toNat|[a,b]=>a.toNat % 32 * 64+b.toNat % 64|[a,b,c]=>(a.toNat % 16 * 64+b.toNat % 64) * 64+c.toNat % 64|[a,b,c,d]=>((a.toNat % 8 * 64+b.toNat % 64) * 64+c.toNat % 64) * 64+d.toNat % 64|_=>0
def AbJ (x:B8) (h0:0<x.length) (h4:x.length<=4):I6 N x=some (AEM x:Int):=by match x,h0,h4 with | [a],_,_=>have ha:=a.toNat_lt;unfold I6;rw[show((([a]:B8).length:Int)==1)=true from rfl,ah rfl,show idx [a] 0=some a from rfl,aa,JC,OU fG];rfl| [a,b],_,_=>have ha:=a.toNat_lt;unfold I6;rw[show((([a,b]:B8).length:Int)==1)=false from rfl,ae fI,show idx [a,b] 0=some a from rfl,aa,JC];rw[AJ (by show¬((5:Int)<0);decide),AA,AJ fG,OU fG];rw[show wr .i64 (Vy .i64 1 (wr .i64 (7-(([a,b]:B8).length:Int)))-1)=31 from rfl,Ata fG];rw[show((([a,b]:B8).length:Int)-1).toNat=0+1 from rfl,show(1:Int)=((1:Nat):Int)from rfl];rw[ZR (c:=b) rfl fG,Cq];rfl| [a,b,c],_,_=>have ha:=a.toNat_lt;unfold I6;rw[show((([a,b,c]:B8).length:Int)==1)=false from rfl,ae fI,show idx [a,b,c] 0=some a from rfl,aa,JC];rw[AJ (by show¬((4:Int)<0);decide),AA,AJ fG,OU fG];rw[show wr .i64 (Vy .i64 1 (wr .i64 (7-(([a,b,c]:B8).length:Int)))-1)=15 from rfl,Atr fG];rw[show((([a,b,c]:B8).length:Int)-1).toNat=0+1+1 from rfl,show(1:Int)=((1:Nat):Int)from rfl];rw[ZR (c:=b) rfl fG,ZR (c:=c) rfl fG,Cq];rfl| [a,b,c,d],_,_=>have ha:=a.toNat_lt;unfold I6;rw[show((([a,b,c,d]:B8).length:Int)==1)=false from rfl,ae fI,show idx [a,b,c,d] 0=some a from rfl,aa,JC];rw[AJ (by show¬((3:Int)<0);decide),AA,AJ fG,OU fG];rw[show wr .i64 (Vy .i64 1 (wr .i64 (7-(([a,b,c,d]:B8).length:Int)))-1)=7 from rfl,b7' fG];rw[show((([a,b,c,d]:B8).length:Int)-1).toNat=0+1+1+1 from rfl,show(1:Int)=((1:Nat):Int)from rfl];rw[ZR (c:=b) rfl fG,ZR (c:=c) rfl fG,ZR (c:=d) rfl fG,Cq];rfl
def AEz (x:B8):Bool:=DX (AEM x:Int)&&(Vm (AEM x)==x)
def ABS{l:B8}{i j k:Nat}{k6:Unit->Option (Int×Int×Int)} (hi:i+10<=2^60) (h1:1<=j) (h4:j<=4):C9 N l (i:Int) k6 (k+1) (j:Int)=if i+j<=l.length then(if AEz ((l.drop i).take j)=true then some ((AEM ((l.drop i).take j):Int),((i+j:Nat):Int),0)else C9 N l (i:Int) k6 k ((j+1:Nat):Int))else k6 ():=by
 rw[C9,AA];have e1:(j:Int)<=4:=fG;have e2:wr .i64 ((i:Int)+(j:Int))=((i+j:Nat):Int):=by grind[AO]
 have e3:wr .i64 ((j:Int)+1)=((j+1:Nat):Int):=by grind[AO]
 simp only[e1,bl,av,e2,e3];by_cases h:i+j<=l.length
 ·have h':((i+j:Nat):Int)<=(l.length:Int):=fG;simp only[h,h',bl,av];rw[BA l i (i+j) fG h,aa,bk];have hl:((l.drop i).take j).length=j:=by grind
  rw[AbJ _ fG fG,aa,YR,aa,AA];unfold AEz encR;cases hp:DX (AEM ((l.drop i).take j):Int)<;>simp_all[DX,AEM]
 ·have h': ¬((i+j:Nat):Int)<=(l.length:Int):=fG;simp only[h,h',aX,aq,aj]
def ARS (a:UInt8):AEz [a]=true<->a.toNat<128:=by
 have ha:=a.toNat_lt;have hp:DX (a.toNat:Int)=true:=by grind[DX]
 simp only[AEz,AEM,hp,bJ,Vm];by_cases h:a.toNat<128;·simp[h]
 grind
theorem AFi{n:Nat}{a:UInt8} (h:n<256):UInt8.ofNat n=a<->n=a.toNat:=by rw[Asd,toNat_ofNat h]
def ACO (b:UInt8):IY b=true<->128+b.toNat % 64=b.toNat:=by have:=b.toNat_lt;simp only[IY,au];omega
def hit2 (a b:UInt8):AEz [a,b]=true<->a.toNat / 32=6/\IY b=true/\128<=a.toNat % 32 * 64+b.toNat % 64:=by
 have ha:=a.toNat_lt;have hb:=b.toNat_lt;have hp:DX ((a.toNat % 32 * 64+b.toNat % 64:Nat):Int)=true:=by grind[DX]
 simp only[AEz,AEM,hp,bJ,Vm,ACO];by_cases h:a.toNat % 32 * 64+b.toNat % 64<128;·grind
 ·have h2:a.toNat % 32 * 64+b.toNat % 64<2048:=fG;simp only[h,h2,av,aq,bE,ce,da];grind[AFi]
def hit3 (a b c:UInt8):AEz [a,b,c]=true<->a.toNat / 16=14/\IY b=true/\IY c=true/\2048<=(a.toNat % 16 * 64+b.toNat % 64) * 64+c.toNat % 64/\DX (((a.toNat % 16 * 64+b.toNat % 64) * 64+c.toNat % 64:Nat))=true:=by
 have ha:=a.toNat_lt;have hb:=b.toNat_lt;have hc:=c.toNat_lt;simp only[AEz,AEM,Vm,ACO,az];by_cases h0:(a.toNat % 16 * 64+b.toNat % 64) * 64+c.toNat % 64<128;·grind
 by_cases h1:(a.toNat % 16 * 64+b.toNat % 64) * 64+c.toNat % 64<2048;·grind
 ·have h2:(a.toNat % 16 * 64+b.toNat % 64) * 64+c.toNat % 64<65536:=fG;simp only[h0,h1,h2,av,aq,bE,ce,da];grind[AFi]
def Ah6 (a b c d:UInt8):AEz [a,b,c,d]=true<->a.toNat / 8=30/\IY b=true/\IY c=true/\IY d=true/\65536<=((a.toNat % 8 * 64+b.toNat % 64) * 64+c.toNat % 64) * 64+d.toNat % 64/\DX ((((a.toNat % 8 * 64+b.toNat % 64) * 64+c.toNat % 64) * 64+d.toNat % 64:Nat))=true:=by
 have ha:=a.toNat_lt;have hb:=b.toNat_lt;have hc:=c.toNat_lt;have hd:=d.toNat_lt;simp only[AEz,AEM,Vm,ACO,az];by_cases h0:((a.toNat % 8 * 64+b.toNat % 64) * 64+c.toNat % 64) * 64+d.toNat % 64<128;·grind
 by_cases h1:((a.toNat % 8 * 64+b.toNat % 64) * 64+c.toNat % 64) * 64+d.toNat % 64<2048;·grind
 by_cases h2:((a.toNat % 8 * 64+b.toNat % 64) * 64+c.toNat % 64) * 64+d.toNat % 64<65536;·grind
 ·simp only[h0,h1,h2,av,aq,bE,ce,da];rw[AFi fG,AFi fG,AFi fG,AFi fG];constructor;·grind
  ·rintro⟨h,h',h'',h3,_,hp⟩;exact⟨hp,fG,fG,fG,fG⟩
def Al7{l:B8}{i k:Nat}{k6:Unit->Option (Int×Int×Int)}:C9 N l (i:Int) k6 (k+1) ((4+1:Nat):Int)=k6 ():=by grind[C9,AA]
def Ih{b:Bool}{p:Prop} (h:b=true<->p) (k: ¬p):b=false:=by simp_all
def Aeu{l:B8}{i:Nat} (hN:5<=N) (hi:i<l.length) (hb:l.length+10<=2^60):Kw N l (i:Int)=some (Mf i (Zn (l.drop i))):=by
 obtain⟨M,rfl⟩: ∃M,N=M+1+1+1+1+1:=⟨N-5,fG⟩;unfold Kw;have c1: ¬((i:Int)<0):=fG;have c2: ¬((i:Int)>=(l.length:Int)):=fG;simp only[AA,c1,c2,aX,aj,aq];rw[show(1:Int)=((1:Nat):Int)from rfl,ABS fG fG fG,ABS fG fG fG,ABS fG fG fG,ABS fG fG fG,Al7];obtain⟨t,ht⟩: ∃t,l.drop i=t:=⟨_,rfl⟩;have hl:=BO ht fG;rw[ht];match t,hl with
 |[],hl=>grind
 | [a],hl=>
  simp only[ag,ap]at hl;have e1:i+1<=l.length:=fG;have e2: ¬i+(1+1)<=l.length:=fG;simp only[e1,e2,av,aq,List.take];simp only[Zn];by_cases h1:a.toNat<128;·rw[ah ((ARS a).2 h1),ah h1];rfl
  ·rw[Ih (ARS a) h1];grind[Mf]
 | [a,b],hl=>
  simp only[ag,ap]at hl;have e1:i+1<=l.length:=fG;have e2:i+(1+1)<=l.length:=fG;have e3: ¬i+(1+1+1)<=l.length:=fG;simp only[e1,e2,e3,av,aq,List.take];simp only[Zn];by_cases h1:a.toNat<128;·rw[ah ((ARS a).2 h1),ah h1];rfl
  ·rw[Ih (ARS a) h1];simp only[aj,aq,h1];by_cases h2:a.toNat / 32=6
   ·simp only[h2,av];by_cases k:IY b=true/\128<=a.toNat % 32 * 64+b.toNat % 64;·rw[ah ((hit2 a b).2 ⟨h2,k⟩),ah k];rfl
    ·rw[Ih (hit2 a b) (λh=>k h.2),ae k];rfl
   ·rw[Ih (hit2 a b) (λh=>h2 h.1)];simp_all[Mf]
 | [a,b,c],hl=>
  simp only[ag,ap]at hl;have e1:i+1<=l.length:=fG;have e2:i+(1+1)<=l.length:=fG;have e3:i+(1+1+1)<=l.length:=fG;have e4: ¬i+(1+1+1+1)<=l.length:=fG;simp only[e1,e2,e3,e4,av,aq,List.take];simp only[Zn];by_cases h1:a.toNat<128;·rw[ah ((ARS a).2 h1),ah h1];rfl
  ·rw [Ih (ARS a) h1];simp only[aj,aq,h1];by_cases h2:a.toNat / 32=6
   ·have h3: ¬a.toNat / 16=14:=fG;simp only[h2,av,Ih (hit3 a b c) (λh=>h3 h.1),aj,aq];by_cases k:IY b=true/\128<=a.toNat % 32 * 64+b.toNat % 64;·rw[ah ((hit2 a b).2 ⟨h2,k⟩),ah k];rfl
    ·rw[Ih (hit2 a b) (λh=>k h.2),ae k];rfl
   ·rw[Ih (hit2 a b) (λh=>h2 h.1)];simp only[aj,aq,h2];by_cases h3:a.toNat / 16=14
    ·simp only[h3,av];by_cases k:IY b=true/\IY c=true/\2048<=(a.toNat % 16 * 64+b.toNat % 64) * 64+c.toNat % 64/\DX (((a.toNat % 16 * 64+b.toNat % 64) * 64+c.toNat % 64:Nat))=true;·rw[ah ((hit3 a b c).2 ⟨h3,k⟩),ah k];rfl
     ·rw[ae (λe=>k ((hit3 a b c).1 e).2),ae k];rfl
    ·rw[Ih (hit3 a b c) (λh=>h3 h.1)];simp_all[Mf]
 | a::b::c::d::t,hl=>
  simp only[ag]at hl;have e1:i+1<=l.length:=fG;have e2:i+(1+1)<=l.length:=fG;have e3:i+(1+1+1)<=l.length:=fG;have e4:i+(1+1+1+1)<=l.length:=fG;rw[show List.take 1 (a::b::c::d::t)=[a]from rfl,show List.take (1+1) (a::b::c::d::t)=[a,b]from rfl,show List.take (1+1+1) (a::b::c::d::t)=[a,b,c]from rfl,show List.take (1+1+1+1) (a::b::c::d::t)=[a,b,c,d]from rfl];simp only[e1,e2,e3,e4,av,aq];simp only[Zn];by_cases h1:a.toNat<128;·rw[ah ((ARS a).2 h1),ah h1];rfl
  ·rw [Ih (ARS a) h1];simp only[aj,aq,h1];by_cases h2:a.toNat / 32=6
   ·have h3: ¬a.toNat / 16=14:=fG;have h4: ¬a.toNat / 8=30:=fG;simp only[h2,av,Ih (hit3 a b c) (λh=>h3 h.1),Ih (Ah6 a b c d) (λh=>h4 h.1),aj,aq];by_cases k:IY b=true/\128<=a.toNat % 32 * 64+b.toNat % 64;·rw[ah ((hit2 a b).2 ⟨h2,k⟩),ah k];rfl
    ·rw[Ih (hit2 a b) (λh=>k h.2),ae k];rfl
   ·rw [Ih (hit2 a b) (λh=>h2 h.1)];simp only[aj,aq,h2];by_cases h3:a.toNat / 16=14
    ·have h4: ¬a.toNat / 8=30:=fG;simp only[h3,av,Ih (Ah6 a b c d) (λh=>h4 h.1),aj,aq];by_cases k:IY b=true/\IY c=true/\2048<=(a.toNat % 16 * 64+b.toNat % 64) * 64+c.toNat % 64/\DX (((a.toNat % 16 * 64+b.toNat % 64) * 64+c.toNat % 64:Nat))=true;·rw[ah ((hit3 a b c).2 ⟨h3,k⟩),ah k];rfl
     ·rw[ae (λe=>k ((hit3 a b c).1 e).2),ae k];rfl
    ·rw[Ih (hit3 a b c) (λh=>h3 h.1)];simp only[aj,aq,h3];by_cases h4:a.toNat / 8=30
     ·simp only[h4,av];by_cases k:IY b=true/\IY c=true/\IY d=true/\65536<=((a.toNat % 8 * 64+b.toNat % 64) * 64+c.toNat % 64) * 64+d.toNat % 64/\DX ((((a.toNat % 8 * 64+b.toNat % 64) * 64+c.toNat % 64) * 64+d.toNat % 64:Nat))=true;·rw[ah ((Ah6 a b c d).2 ⟨h4,k⟩),ah k];rfl
      ·rw[ae (λe=>k ((Ah6 a b c d).1 e).2),ae k];rfl
     ·rw[ae (λe=>h4 ((Ah6 a b c d).1 e).1),ae h4];rfl
end
end Go.VM
namespace Go.VM
section
variable{N:Nat}
def BJ{α:Type} [DecidableEq α]{f g:Nat->α} (h:(List.range 256).all (λn=>decide (f n=g n))=true) (c:UInt8):f c.toNat=g c.toNat:=by have:=aS.1 h c.toNat (cy.2 c.toNat_lt);grind
def U3 (n:Nat):Bool:=(decide (48<=n)&&decide (n<=57))||(decide (65<=n)&&decide (n<=70))||(decide (97<=n)&&decide (n<=102))
def KC (c:UInt8):Bool:=U3 c.toNat
def Ev (n:Nat):Nat:=if n<=57 then n-48 else if n<=70 then n-55 else n-87
def TD (c:UInt8) (h:KC c=true):Ev c.toNat<16:=by simp only[KC,U3,bM,az,au]at h;unfold Ev;split<;>(grind)<;>omega
def AGm (c:UInt8):Lt N (AC c)=some (KC c):=BJ (f:=λn=>Lt N (n:Int)) (g:=λn=>some (U3 n)) (by kernel_rfl) c
def AH6 (c:UInt8):Iq N (AC c)=some (KC c):=BJ (f:=λn=>Iq N (n:Int)) (g:=λn=>some (U3 n)) (by kernel_rfl) c
def AWt (c:UInt8) (h:KC c=true):MN N (AC c)=some ((Ev c.toNat:Nat):Int):=by have:=BJ (f:=λn=>if U3 n=true then MN N (n:Int)else none) (g:=λn=>if U3 n=true then some ((Ev n:Nat):Int)else none) (by kernel_rfl) c;simp only[show U3 c.toNat=true from h,av]at this;exact this
def AmZ (c:UInt8) (h:KC c=true):(if decide (AC c>57)=true then wr .u64 (wr .u64 (wr .u64 (JQ .u8 (AC c) 32)-97)+10)else wr .u64 (wr .u8 (AC c-48)))=((Ev c.toNat:Nat):Int):=by have:=BJ (f:=λn=>if U3 n=true then(if decide ((n:Int)>57)=true then wr .u64 (wr .u64 (wr .u64 (JQ .u8 (n:Int) 32)-97)+10)else wr .u64 (wr .u8 ((n:Int)-48)))else 0) (g:=λn=>if U3 n=true then((Ev n:Nat):Int)else 0) (by kernel_rfl) c;simp only[show U3 c.toNat=true from h,av]at this;exact this
def ACe (n:Nat):B8->Nat |[]=>n|c::l=>ACe (n * 16+Ev c.toNat) l
def Yt: ∀(l:B8) (n:Nat),l.all KC=true->ACe n l<(n+1) * 16^l.length |[],n,_=>by simp[ACe]| c::l,n,h=>by simp only[aK,az]at h;have:=Yt l (n * 16+Ev c.toNat) h.2;have hd:=TD c h.1;rw[ACe,ag,fD];have e:(n * 16+Ev c.toNat+1) * 16^l.length<=(n+1) * 16 * 16^l.length:=b9 _ fG;grind
def AoZ (k2:Unit->Option (Int×Int)): ∀l:B8,BP N k2 l=if l.all KC=true then k2 ()else some (0,1) |[]=>by rw[BP];rfl| c::l=>by rw[BP,AGm,aa,AoZ k2 l];cases h:KC c<;>simp[h]
def Aow (k2:Unit->Option (Int×Int)): ∀l:B8,Co N 16 k2 l=if l.all KC=true then k2 ()else some (0,1) |[]=>by grind[Co]| c::l=>by rw[Co,AA,show((16:Int)==10)=false from rfl,show((16:Int)==16)=true from rfl];simp only[aj,aq,av];rw[AH6,aa,Aow k2 l];cases h:KC c<;>simp[h]
def AoY (k9:Int->Option (Int×Int)): ∀(l:B8) (n:Nat),l.all KC=true->(n+1) * 16^l.length<=65536->BQ N 16 65535 k9 l (n:Int)=k9 ((ACe n l:Nat):Int)
 |[],n,_,_=>by rw[BQ];rfl
 | c::l,n,h,hn=>by
  simp only[aK,az]at h;have hd:=TD c h.1;have hv:=Yt [] (n * 16+Ev c.toNat) rfl;rw[ag,fD]at hn;have hp:1<=16^l.length:=Nat.one_le_pow _ _ fI;have e:(n * 16+Ev c.toNat+1) * 16^l.length<=65536:=by
   have e1:(n * 16+Ev c.toNat+1) * 16^l.length<=(n+1) * 16 * 16^l.length:=b9 _ fG;have e2:(n+1) * 16 * 16^l.length=(n+1) * (16^l.length * 16):=by rw[Nat.mul_assoc,Nat.mul_comm 16]
   omega
  have e3:n * 16+Ev c.toNat+1<=65536:=by have:(n * 16+Ev c.toNat+1) * 1<=(n * 16+Ev c.toNat+1) * 16^l.length:=eB _ hp;omega
  rw[BQ,AWt c h.1,aa,AA,AJ fI];have w1:wr .u64 ((n:Int) * 16)=((n * 16:Nat):Int):=by rw[IC fG];simp
  have w2:wr .u64 (((n * 16:Nat):Int)+((Ev c.toNat:Nat):Int))=((n * 16+Ev c.toNat:Nat):Int):=by rw[IC fG];simp
  have w3:wr .u64 (18446744073709551615-((Ev c.toNat:Nat):Int))=18446744073709551615-((Ev c.toNat:Nat):Int):=IC fG;rw[w1,w2,w3,cc fG,IC fG];have c1: ¬((n:Int)>(18446744073709551615-((Ev c.toNat:Nat):Int)) / 16):=fG;have c2: ¬(((n * 16+Ev c.toNat:Nat):Int)>65535):=fG;simp only[c1,c2,aX,aj,aq];rw[AoY k9 l _ h.2 e];rfl
def AoT (k9:Int->Option (Int×Int)): ∀(l:B8) (n:Nat),l.all KC=true->(n+1) * 16^l.length<=65536->Bh N 16 65535 k9 l (n:Int)=k9 ((ACe n l:Nat):Int)
 |[],n,_,_=>by rw[Bh];rfl
 | c::l,n,h,hn=>by
  simp only[aK,az]at h;have hd:=TD c h.1;rw[ag,fD]at hn;have hp:1<=16^l.length:=Nat.one_le_pow _ _ fI;have e:(n * 16+Ev c.toNat+1) * 16^l.length<=65536:=by have e1:(n * 16+Ev c.toNat+1) * 16^l.length<=(n+1) * 16 * 16^l.length:=b9 _ fG;grind
  have e3:n * 16+Ev c.toNat+1<=65536:=by have:(n * 16+Ev c.toNat+1) * 1<=(n * 16+Ev c.toNat+1) * 16^l.length:=eB _ hp;omega
  rw[Bh];simp only[AA];have hv:=AmZ c h.1;have key: ∀v:Int,v=((Ev c.toNat:Nat):Int)->(grd ((16:Int)≠0) (if decide ((n:Int)>wr .u64 ((65535:Int).tdiv 16))=true then if true=true then(some (0,4):Option (Int×Int))else Bh N 16 65535 k9 l (wr .u64 (wr .u64 ((n:Int) * 16)+v))else if decide (wr .u64 ((n:Int) * 16)>wr .u64 (65535-v))=true then if true=true then some (0,4)else Bh N 16 65535 k9 l (wr .u64 (wr .u64 ((n:Int) * 16)+v))else if decide (v>65535)=true then some (0,4)else Bh N 16 65535 k9 l (wr .u64 (wr .u64 ((n:Int) * 16)+v))))=k9 ((ACe (n * 16+Ev c.toNat) l:Nat):Int):=by
   rintro v rfl;rw[AJ fI,show wr .u64 ((65535:Int).tdiv 16)=4095 from rfl];have w1:wr .u64 ((n:Int) * 16)=((n * 16:Nat):Int):=by grind[IC]
   have w2:wr .u64 (((n * 16:Nat):Int)+((Ev c.toNat:Nat):Int))=((n * 16+Ev c.toNat:Nat):Int):=by grind[IC]
   have w3:wr .u64 (65535-((Ev c.toNat:Nat):Int))=65535-((Ev c.toNat:Nat):Int):=IC fG;rw[w1,w2,w3];have c1: ¬((n:Int)>4095):=fG;have c2: ¬(((n * 16:Nat):Int)>65535-((Ev c.toNat:Nat):Int)):=fG;have c3: ¬(((Ev c.toNat:Nat):Int)>65535):=fG;simp only[c1,c2,c3,aX,aj,aq];exact AoT k9 l _ h.2 e
  rw[ACe];by_cases hc:AC c>57;·simp_all
  ·simp only[hc,aX,aj,aq]at hv⊢;grind
def AQ1 (l:B8):Int×Int:=if l.all KC=true then((ACe 0 l:Nat),0)else(0,1)
def Aga (l:B8) (h0:l≠ []) (h4:l.length<=4):Qi N l 65535=some (AQ1 l):=by
 unfold Qi G9 AQ1;have e:(l==[])=false:=by simpa using h0
 rw[e];simp only[aj,aq,AA];rw[AJ (by unfold AL;omega),AJ (by unfold AL;omega),AoZ];by_cases h:l.all KC=true;·rw[ah h,ah h,show(0:Int)=((0:Nat):Int)from rfl,AoY _ l 0 h (by have:16^l.length<=16^4:=Nat.pow_le_pow_right fI h4;omega)];rfl
 ·rw[ae h,ae h];rfl
def Aja (l:B8) (h0:l≠ []) (h4:l.length<=4):Oj N l 65535=some (AQ1 l):=by
 unfold Oj Ju AQ1;have e:(l==[])=false:=by grind
 rw[e];simp only[aj,aq,AA];rw[AJ (by grind[AL]),AJ (by grind[AL]),Aow];by_cases h:l.all KC=true;·rw[ah h,ah h,show(0:Int)=((0:Nat):Int)from rfl,AoT _ l 0 h (by have:16^l.length<=16^4:=Nat.pow_le_pow_right fI h4;omega)];rfl
 ·rw[ae h,ae h];rfl
end
end Go.VM
