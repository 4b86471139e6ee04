import Derived.Test.YtooeobhihpkicaaGreatDoorVM2
import GoSem.Claim
import Derived.Test.YtooeobhihpkicaaGreatDoorDefs
import Derived.KernelRfl
set_option linter.unusedVariables false
set_option linter.unusedSimpArgs false
namespace Go.VM
theorem KX{n:Nat} (h:n≤9223372036854775807):wr .i64 (n:Int)=n:=by
  simp[wr,IntKind.wrap,IntKind.bits,IntKind.signed];omega
theorem A8{n:Int} (h: -9223372036854775808≤n∧n≤9223372036854775807):wr .i64 n=n:=by
  simp[wr,IntKind.wrap,IntKind.bits,IntKind.signed];omega
theorem Oo{α:Type} (l:List α) (n:Nat):idx l (n:Int)=l[n]?:=by simp[idx]
theorem AAK{α:Type} (pre suf:List α) (x:α):idx (pre++x::suf) (pre.length:Int)=some x:=by simp[idx]
theorem AEP{α:Type}{l pre suf:List α}{x:α} (h:l=pre++x::suf):idx l (pre.length:Int)=some x:=by rw[h];exact AAK ..
theorem AKO{α:Type}{l pre suf:List α}{x:α} (h:l=pre++x::suf):decide ((pre.length:Int)<(l.length:Int))=true:=by
  subst h;simp only[decide_eq_true_eq,List.length_append,List.length_cons];omega
theorem Ps{α:Type} (pre:List α) (x:α):(pre.length:Int)+1=((pre++[x]).length:Int):=by simp
theorem Gw{α:Type} (l:List α) (a b:Nat) (h1:a≤b) (h2:b≤l.length):sub l (a:Int) (b:Int)=some ((l.drop a).take (b-a)):=by
  have h1':(a:Int)≤b:=by omega
  have h2':(b:Int)≤l.length:=by omega
  simp[sub,h1',h2']
theorem Ab{α:Type}{c:Prop} [Decidable c]{x:Option α} (h:c):grd c x=x:=by simp[grd,h]
theorem UG{α:Type}{n:Nat}{x:Option α} (h:n≤4611686018427387904):grd (Bb n) x=x:=Ab h
theorem Am{α β:Type} (k:α→Option β) (body:(α→Option β)→Option β):AZ k body=body k:=rfl
end Go.VM
namespace Go.VM
theorem NE (c:UInt8):Ap c=(c.toNat:Int):=rfl
theorem J8 (c:UInt8):IQ (Ap c)=c:=by simp[IQ,Ap]
theorem toNat_ofNat{n:Nat} (h:n<256):(UInt8.ofNat n).toNat=n:=by simp;omega
theorem F8{P:Nat→Prop} [∀n,Decidable (P n)] (h:(List.range 256).all (fun n=>decide (P n))=true) (c:UInt8):P c.toNat:=by
  have:=List.all_eq_true.1 h c.toNat (List.mem_range.2 c.toNat_lt)
  simpa using this
theorem AIO{n:Int} (h:0≤n∧n<256):wr .u8 n=n:=by
  simp[wr,IntKind.wrap,IntKind.bits,IntKind.signed];omega
theorem Kw{n:Int} (h:0≤n∧n<18446744073709551616):wr .u64 n=n:=by
  simp[wr,IntKind.wrap,IntKind.bits,IntKind.signed];omega
theorem AAR{x:Nat} (h:x<2^63):(BitVec.ofInt 64 (x:Int)).toNat=x:=by
  rw[BitVec.toNat_ofInt];simp;omega
theorem AJW{x y:Nat} (hx:x<2^62) (hy:y<2^62):Jp .i64 x y=((x|||y:Nat):Int):=by
  have h:x|||y<2^62:=Nat.or_lt_two_pow hx hy
  show IntKind.i64.wrap (((BitVec.ofInt 64 (x:Int)|||BitVec.ofInt 64 (y:Int):BitVec 64).toNat:Nat):Int)=_
  rw[BitVec.toNat_or,AAR (by omega),AAR (by omega)]
  simp[IntKind.wrap,IntKind.bits,IntKind.signed];omega
theorem AJb{q y:Nat} (k:Nat) (h:y<2^k):(q * 2^k)|||y=q * 2^k+y:=by
  rw[←Nat.shiftLeft_eq,Nat.shiftLeft_add_eq_or_of_lt h]
theorem AGx{q y:Nat} (k:Nat) (h:y<2^k) (hx:q * 2^k<2^62) (hy:y<2^62):Jp .i64 ((q * 2^k:Nat):Int) (y:Int)=((q * 2^k+y:Nat):Int):=by
  rw[AJW hx hy,AJb k h]
theorem AHM{x k:Nat} (h:k≤64) (hx:x * 2^k<2^63):JB .i64 (x:Int) (k:Int)=((x * 2^k:Nat):Int):=by
  simp only[JB,IntKind.bits,Int.toNat_natCast]
  rw[Nat.min_eq_left h]
  have:(x:Int) * 2^k=((x * 2^k:Nat):Int):=by simp
  rw[this]
  exact KX (n:=x * 2^k) (by omega)
theorem AK0{x:Nat} (h:x<2^50):JB .i64 (x:Int) 6=((x * 64:Nat):Int):=AHM (k:=6) (by decide) (by omega)
theorem AKA{x y:Nat} (h:x<2^50) (hy:y<64):Jp .i64 (JB .i64 (x:Int) 6) (y:Int)=((x * 64+y:Nat):Int):=by
  rw[AK0 h];exact AGx 6 hy (by omega) (by omega)
theorem Yc{n:Nat}:wr .u8 (n:Int)=((n % 256:Nat):Int):=by
  simp[wr,IntKind.wrap,IntKind.bits,IntKind.signed]
theorem FJ:(List.range 256).all (fun n=>decide (
    GV .u8 (n:Int) 127=((n / 128 * 128:Nat):Int)∧GV .u8 (n:Int) 31=((n / 32 * 32:Nat):Int)∧GV .u8 (n:Int) 15=((n / 16 * 16:Nat):Int)∧GV .u8 (n:Int) 7=((n / 8 * 8:Nat):Int)∧
    Da .u8 (n:Int) 127=((n % 128:Nat):Int)∧Da .u8 (n:Int) 31=((n % 32:Nat):Int)∧Da .u8 (n:Int) 15=((n % 16:Nat):Int)∧Da .u8 (n:Int) 7=((n % 8:Nat):Int)∧
    Da .u8 (n:Int) 192=((n / 64 * 64:Nat):Int)∧Da .u8 (n:Int) 63=((n % 64:Nat):Int)))=true:=by decide+kernel
theorem AKV (c:UInt8):GV .u8 (Ap c) 127=((c.toNat / 128 * 128:Nat):Int):=(F8 FJ c).1
theorem AK6 (c:UInt8):GV .u8 (Ap c) 31=((c.toNat / 32 * 32:Nat):Int):=(F8 FJ c).2.1
theorem AKr (c:UInt8):GV .u8 (Ap c) 15=((c.toNat / 16 * 16:Nat):Int):=(F8 FJ c).2.2.1
theorem bn7 (c:UInt8):GV .u8 (Ap c) 7=((c.toNat / 8 * 8:Nat):Int):=(F8 FJ c).2.2.2.1
theorem AKl (c:UInt8):Da .u8 (Ap c) 127=((c.toNat % 128:Nat):Int):=(F8 FJ c).2.2.2.2.1
theorem b31 (c:UInt8):Da .u8 (Ap c) 31=((c.toNat % 32:Nat):Int):=(F8 FJ c).2.2.2.2.2.1
theorem b15 (c:UInt8):Da .u8 (Ap c) 15=((c.toNat % 16:Nat):Int):=(F8 FJ c).2.2.2.2.2.2.1
theorem b7 (c:UInt8):Da .u8 (Ap c) 7=((c.toNat % 8:Nat):Int):=(F8 FJ c).2.2.2.2.2.2.2.1
theorem AKw (c:UInt8):Da .u8 (Ap c) 192=((c.toNat / 64 * 64:Nat):Int):=(F8 FJ c).2.2.2.2.2.2.2.2.1
theorem b63 (c:UInt8):Da .u8 (Ap c) 63=((c.toNat % 64:Nat):Int):=(F8 FJ c).2.2.2.2.2.2.2.2.2
end Go.VM
namespace Go.VM
section
variable{N:Nat}
def Ji (r:Int):Bool:=decide (0≤r)&&(decide (r≤1114111)&&(decide (r<55296)||decide (r>57343)))
theorem AC7 (r:Int):FT N r=some (Ji r):=by
  unfold FT Ji
  by_cases h1:r≥0<;>by_cases h2:r≤1114111<;>by_cases h3:r<55296<;>simp[h1,h2,h3]
def AFl (r:Nat):List UInt8:=
  if r<128 then [.ofNat r]
  else if r<2048 then [.ofNat (192+r / 64),.ofNat (128+r % 64)]
  else if r<65536 then [.ofNat (224+r / 4096),.ofNat (128+r / 64 % 64),.ofNat (128+r % 64)]
  else [.ofNat (240+r / 262144),.ofNat (128+r / 4096 % 64),.ofNat (128+r / 64 % 64),.ofNat (128+r % 64)]
end
end Go.VM
namespace Go.VM
def Ok{α:Type} (x:Option α) (P:α→Prop):Prop:= ∃a,x=some a∧P a
section
variable{α β:Type}{P:α→Prop}{Q:β→Prop}
theorem Ok.ret{a:α} (h:P a):Ok (some a) P:=⟨a,rfl,h⟩
theorem Ok.bind{x:Option β}{f:β→Option α} (h:Ok x Q) (k: ∀b,Q b→Ok (f b) P):Ok (Option.bind x f) P:=by
  obtain⟨b,rfl,hb⟩:=h;exact k b hb
theorem Ok.grd{c:Prop} [Decidable c]{x:Option α} (hc:c) (h:Ok x P):Ok (grd c x) P:=by rw[Ab hc];exact h
theorem Ok.meet (J:β→Prop){k:β→Option α}{body:(β→Option α)→Option α} (hk: ∀b,J b→Ok (k b) P) (hb: ∀k':β→Option α,(∀b,J b→Ok (k' b) P)→Ok (body k') P):Ok (AZ k body) P:=hb k hk
theorem Ok.letL{x:β}{f:β→Option α} (h:Ok (f x) P):Ok (letL x f) P:=h
theorem Ok.mono{x:Option α}{P':α→Prop} (h:Ok x P) (k: ∀a,P a→P' a):Ok x P':=by obtain⟨a,e,ha⟩:=h;exact⟨a,e,k a ha⟩
theorem Ok.eq{x:Option α}{a:α} (h:x=some a):Ok x (· =a):=⟨a,h,rfl⟩
theorem Ok.idx{l:List α}{i:Int} (h0:0≤i) (h1:i<l.length):Ok (idx l i) (fun x=>l[i.toNat]?=some x):=by
  have:i.toNat<l.length:=by omega
  exact⟨l[i.toNat],by simp[VM.idx,h0,List.getElem?_eq_getElem this],List.getElem?_eq_getElem this⟩
theorem Ok.sub{l:List α}{a b:Int} (h0:0≤a) (h1:a≤b) (h2:b≤l.length):Ok (sub l a b) (fun x=>x=(l.drop a.toNat).take (b.toNat-a.toNat)∧x.length=(b-a).toNat):=by
  refine⟨_,by simp[VM.sub,h0,h1,h2],rfl,?_⟩
  simp;omega
end
end Go.VM
namespace Go.VM
section
variable{N:Nat}
def Hw (c:UInt8):Bool:=decide (c.toNat / 64=2)
def Kc:List UInt8→Option (Nat×Nat)
  |[]=>none
  | a::t=>
    if a.toNat<128 then some (a.toNat,1)
    else if a.toNat / 32=6 then
      match t with
      |b::_=>if Hw b=true∧128≤a.toNat % 32 * 64+b.toNat % 64 then some (a.toNat % 32 * 64+b.toNat % 64,2)else none
      |_=>none
    else if a.toNat / 16=14 then
      match t with
      |b::c::_=>if Hw b=true∧Hw c=true∧2048≤(a.toNat % 16 * 64+b.toNat % 64) * 64+c.toNat % 64∧Ji (((a.toNat % 16 * 64+b.toNat % 64) * 64+c.toNat % 64:Nat))=true then some ((a.toNat % 16 * 64+b.toNat % 64) * 64+c.toNat % 64,3)else none
      |_=>none
    else if a.toNat / 8=30 then
      match t with
      |b::c::d::_=>if Hw b=true∧Hw c=true∧Hw d=true∧65536≤((a.toNat % 8 * 64+b.toNat % 64) * 64+c.toNat % 64) * 64+d.toNat % 64∧Ji ((((a.toNat % 8 * 64+b.toNat % 64) * 64+c.toNat % 64) * 64+d.toNat % 64:Nat))=true then some (((a.toNat % 8 * 64+b.toNat % 64) * 64+c.toNat % 64) * 64+d.toNat % 64,4)else none
      |_=>none
    else none
def IG (i:Nat):Option (Nat×Nat)→Int×Int×Int
  |some (r,n)=>((r:Int),((i+n:Nat):Int),0)
  |none=>(0,0,7)
theorem QU{α:Type}{l t:List α}{x:α}{i j:Nat} (h:l.drop i=t) (hx:t[j]?=some x):idx l ((i+j:Nat):Int)=some x:=by
  rw[Oo,←List.getElem?_drop,h,hx]
theorem Fz{α:Type}{l t:List α}{i:Nat} (h:l.drop i=t) (hi:i≤l.length):l.length=i+t.length:=by
  have:=congrArg List.length h
  simp at this;omega
section
variable{l t:List UInt8}{i:Nat}{k13:Int→Option (Int×Int×Int)}
theorem Tq (hi:i+10≤2^60){k m j:Nat}{r:Int} (h:m<j) (hj:j≤5):BK N l (i:Int) (m:Int) k13 (k+1) r (j:Int)=k13 r:=by
  rw[BK]
  have: ¬(j:Int)≤m:=by omega
  simp[this]
theorem Lj (hi:i+10≤2^60){k m j r:Nat}{x:UInt8} (h:j≤m) (hm:m≤3) (ht:l.drop i=t) (hx:t[j]?=some x) (hr:r<2^50):
    BK N l (i:Int) (m:Int) k13 (k+1) (r:Int) (j:Int)=if Hw x=true then BK N l (i:Int) (m:Int) k13 k ((r * 64+x.toNat % 64:Nat):Int) ((j+1:Nat):Int)else some (0,0,7):=by
  rw[BK]
  have h1:(j:Int)≤m:=by omega
  have h2:wr .i64 ((i:Int)+(j:Int))=((i+j:Nat):Int):=by rw[A8 (by omega)];simp
  have h3:wr .i64 ((j:Int)+1)=((j+1:Nat):Int):=by rw[A8 (by omega)];simp
  have h4:x.toNat % 64<64:=Nat.mod_lt _ (by decide)
  simp only[h1,decide_true,if_true,h2,h3]
  rw[QU ht hx,Option.bind_some,AKw,b63,KX (by omega),AKA hr h4]
  have h5:((((x.toNat / 64 * 64:Nat):Int)) !=128)=!Hw x:=by
    unfold Hw
    by_cases hc:x.toNat / 64=2
    · rw[hc];rfl
    · have: ¬((x.toNat / 64 * 64:Nat):Int)=128:=by omega
      simp only[hc,decide_false,Bool.not_false,bne_iff_ne,ne_eq];exact this
  rw[h5]
  cases Hw x<;>simp
theorem AKz:idx DU 0=some (Utf8textForm.mk 0 127 0):=rfl
theorem AK3:idx DU 1=some (Utf8textForm.mk 192 31 128):=rfl
theorem AKx:idx DU 2=some (Utf8textForm.mk 224 15 2048):=rfl
theorem AKu:idx DU 3=some (Utf8textForm.mk 240 7 65536):=rfl
def ABC (i m least r:Nat):Int×Int×Int:=if least≤r∧Ji (r:Int)=true then((r:Int),((i+m:Nat):Int),0)else(0,0,7)
theorem ADq (hN:5≤N) (hi:i<l.length) (hb:l.length+10≤2^60):F4 N l (i:Int)=some (IG i (Kc (l.drop i))):=by
  obtain⟨M,rfl⟩: ∃M,N=M+5:=⟨N-5,by omega⟩
  unfold F4
  have c1: ¬((i:Int)<0):=by omega
  have c2: ¬((i:Int)≥(l.length:Int)):=by omega
  simp only[Am,c1,c2,decide_false,Bool.false_eq_true,if_false]
  rw[Ab (by decide)]
  obtain⟨t,ht⟩: ∃t,l.drop i=t:=⟨_,rfl⟩
  have hl:=Fz ht (by omega)
  cases t with
  |nil=>simp at hl;omega
  | cons a t=>
    have ha:idx l (i:Int)=some a:=by
      have:=QU (j:=0) ht rfl
      simpa using this
    have hat:=a.toNat_lt
    simp only[List.length_cons]at hl
    have hw:wr .i64 (wr .i64 ((l.length:Int)-(i:Int))-1)=((t.length:Nat):Int):=by
      rw[A8 (n:=(l.length:Int)-(i:Int)) (by omega),A8 (by omega)];omega
    have he: ∀m:Nat,m≤3→wr .i64 (wr .i64 ((i:Int)+(m:Int))+1)=((i+(m+1):Nat):Int):=by
      intro m hm
      rw[A8 (n:=(i:Int)+(m:Int)) (by omega),A8 (by omega)];omega
    have fin: ∀(m least r:Nat),m≤3→(if decide ((r:Int)<(least:Int))=true then(some (0,0,7):Option (Int×Int×Int))else Option.bind (FT (M+5) (r:Int)) fun y22=>if(!y22)=true then some (0,0,7)else some ((r:Int),wr .i64 (wr .i64 ((i:Int)+(m:Int))+1),0))=some (ABC i (m+1) least r):=by
      intro m least r hm
      rw[AC7,Option.bind_some,he m hm]
      unfold ABC
      by_cases h1:least≤r
      · have: ¬(r:Int)<least:=by omega
        cases hp:Ji (r:Int)<;>simp[h1,this,hp]
      · have:(r:Int)<least:=by omega
        simp[h1,this]
    rw[ht]
    show Br (M+5) l (i:Int) _ 4 0=_
    rw[Br,AKz,Option.bind_some,ha,Option.bind_some,AKV,hw]
    unfold Kc
    by_cases h1:a.toNat<128
    · have e1:((a.toNat / 128 * 128:Nat):Int)=0:=by omega
      have e2: ¬((t.length:Int)<0):=by omega
      simp only[e1,bne_self_eq_false,Bool.false_eq_true,if_false,e2,decide_false,Am,h1,if_true]
      rw[AKl,Nat.mod_eq_of_lt h1,KX (by omega)]
      rw[show BK (M+5) l (i:Int) 0=BK (M+5) l (i:Int) ((0:Nat):Int)from rfl,show(1:Int)=((1:Nat):Int)from rfl,Tq (by omega) (by omega) (by omega)]
      have:=fin 0 0 a.toNat (by omega)
      rw[show((0:Nat):Int)=0 from rfl]at this
      rw[show((1:Nat):Int)=1 from rfl,this]
      have hp:Ji (a.toNat:Int)=true:=by simp[Ji];omega
      simp[ABC,hp,IG]
    · have e1 : (((a.toNat / 128 * 128:Nat):Int) !=0)=true:=by
        have: ¬((a.toNat / 128 * 128:Nat):Int)=0:=by omega
        simpa using this
      simp only[e1,if_true,h1,if_false]
      rw[show(0:Int)+1=1 from rfl,Br,AK3,Option.bind_some,ha,Option.bind_some,AK6,hw]
      by_cases h2:a.toNat / 32=6
      · rw [h2]
        simp only[show(((6 * 32:Nat):Int) !=192)=false from rfl,Bool.false_eq_true,if_false,if_true]
        cases t with
        |nil=>simp[IG]
        | cons b t=>
          have e2: ¬((((b::t).length:Nat):Int)<1):=by simp only[List.length_cons];omega
          simp only[e2,decide_false,Bool.false_eq_true,if_false,Am]
          rw[b31,KX (by omega)]
          rw[show BK (M+5) l (i:Int) 1=BK (M+5) l (i:Int) ((1:Nat):Int)from rfl,show(1:Int)=((1:Nat):Int)from rfl]
          rw[Lj (by omega) (Nat.le_refl _) (by omega) ht rfl (by omega)]
          cases hc:Hw b with
          |false=>simp[hc,IG]
          | true=>
            simp only[if_true,true_and]
            rw[Tq (by omega) (by omega) (by omega)]
            have:=fin 1 128 (a.toNat % 32 * 64+b.toNat % 64) (by omega)
            rw[show((1:Nat):Int)=1 from rfl]at this
            rw[show((1:Nat):Int)=1 from rfl]
            refine this.trans ?_
            have hp:Ji ((a.toNat % 32 * 64+b.toNat % 64:Nat):Int)=true:=by
              have:a.toNat % 32<32:=Nat.mod_lt _ (by decide)
              have:b.toNat % 64<64:=Nat.mod_lt _ (by decide)
              simp[Ji];omega
            simp only[ABC,hp,and_true]
            split<;>simp[IG]
      · have e1 : (((a.toNat / 32 * 32:Nat):Int) !=192)=true:=by
          have: ¬((a.toNat / 32 * 32:Nat):Int)=192:=by omega
          simpa using this
        simp only[e1,if_true,h2,if_false]
        rw[show(1:Int)+1=2 from rfl,Br,AKx,Option.bind_some,ha,Option.bind_some,AKr,hw]
        by_cases h3:a.toNat / 16=14
        · rw [h3]
          simp only[show(((14 * 16:Nat):Int) !=224)=false from rfl,Bool.false_eq_true,if_false,if_true]
          match t,ht,hl with
          |[],ht,hl=>simp[IG]
          |[b],ht,hl=>simp[IG]
          | b::c::t,ht,hl=>
            have e2: ¬((((b::c::t).length:Nat):Int)<2):=by simp only[List.length_cons];omega
            simp only[e2,decide_false,Bool.false_eq_true,if_false,Am]
            rw[b15,KX (by omega)]
            rw[show BK (M+5) l (i:Int) 2=BK (M+5) l (i:Int) ((2:Nat):Int)from rfl,show(1:Int)=((1:Nat):Int)from rfl]
            rw[Lj (by omega) (by omega) (by omega) ht rfl (by omega)]
            cases hc:Hw b with
            |false=>simp[hc,IG]
            | true=>
              simp only[if_true,true_and]
              rw[Lj (by omega) (by omega) (by omega) ht rfl (by omega)]
              cases hc2:Hw c with
              |false=>simp[hc2,IG]
              | true=>
                simp only[if_true,true_and]
                rw[Tq (by omega) (by omega) (by omega)]
                have:=fin 2 2048 ((a.toNat % 16 * 64+b.toNat % 64) * 64+c.toNat % 64) (by omega)
                rw[show((2:Nat):Int)=2 from rfl]at this
                refine this.trans ?_
                simp only[ABC]
                split<;>simp[IG]
        · have e1:(((a.toNat / 16 * 16:Nat):Int) !=224)=true:=by
            have: ¬((a.toNat / 16 * 16:Nat):Int)=224:=by omega
            simpa using this
          simp only[e1,if_true,h3,if_false]
          rw[show(2:Int)+1=3 from rfl,Br,AKu,Option.bind_some,ha,Option.bind_some,bn7,hw]
          by_cases h4:a.toNat / 8=30
          · rw [h4]
            simp only[show(((30 * 8:Nat):Int) !=240)=false from rfl,Bool.false_eq_true,if_false,if_true]
            match t,ht,hl with
            |[],ht,hl=>simp[IG]
            |[b],ht,hl=>simp[IG]
            |[b,c],ht,hl=>simp[IG]
            | b::c::d::t,ht,hl=>
              have e2: ¬((((b::c::d::t).length:Nat):Int)<3):=by simp only[List.length_cons];omega
              simp only[e2,decide_false,Bool.false_eq_true,if_false,Am]
              rw[b7,KX (by omega)]
              rw[show BK (M+5) l (i:Int) 3=BK (M+5) l (i:Int) ((3:Nat):Int)from rfl,show(1:Int)=((1:Nat):Int)from rfl]
              rw[Lj (by omega) (by omega) (by omega) ht rfl (by omega)]
              cases hc:Hw b with
              |false=>simp[hc,IG]
              | true=>
                simp only[if_true,true_and]
                rw[Lj (by omega) (by omega) (by omega) ht rfl (by omega)]
                cases hc2:Hw c with
                |false=>simp[hc2,IG]
                | true=>
                  simp only[if_true,true_and]
                  rw[Lj (by omega) (by omega) (by omega) ht rfl (by omega)]
                  cases hc3:Hw d with
                  |false=>simp[hc3,IG]
                  | true=>
                    simp only[if_true,true_and]
                    rw[Tq (by omega) (by omega) (by omega)]
                    have:=fin 3 65536 (((a.toNat % 8 * 64+b.toNat % 64) * 64+c.toNat % 64) * 64+d.toNat % 64) (by omega)
                    rw[show((3:Nat):Int)=3 from rfl]at this
                    refine this.trans ?_
                    simp only[ABC]
                    split<;>simp[IG]
          · have e1:(((a.toNat / 8 * 8:Nat):Int) !=240)=true:=by
              have: ¬((a.toNat / 8 * 8:Nat):Int)=240:=by omega
              simpa using this
            simp only[e1,if_true,h4,if_false]
            rw[Br]
            rfl
end
end
end Go.VM
namespace Go.VM
section
variable{N:Nat}
end
end Go.VM
namespace Go.VM
section
variable{N:Nat}
theorem Hd{α:Type} [DecidableEq α]{f g:Nat→α} (h:(List.range 256).all (fun n=>decide (f n=g n))=true) (c:UInt8):f c.toNat=g c.toNat:=by
  have:=List.all_eq_true.1 h c.toNat (List.mem_range.2 c.toNat_lt)
  simpa using this
def AA5 (n:Nat):Bool:=(decide (48≤n)&&decide (n≤57))||(decide (65≤n)&&decide (n≤70))||(decide (97≤n)&&decide (n≤102))
def TP (c:UInt8):Bool:=AA5 c.toNat
def H7 (n:Nat):Nat:=if n≤57 then n-48 else if n≤70 then n-55 else n-87
theorem AHg (c:UInt8) (h:TP c=true):H7 c.toNat<16:=by
  simp only[TP,AA5,Bool.or_eq_true,Bool.and_eq_true,decide_eq_true_eq]at h
  unfold H7;split<;>(try split)<;>omega
theorem AHU (c:UInt8) (h:TP c=true):Hr N (Ap c)=some ((H7 c.toNat:Nat):Int):=by
  have:=Hd (f:=fun n=>if AA5 n=true then Hr N (n:Int)else none) (g:=fun n=>if AA5 n=true then some ((H7 n:Nat):Int)else none) (by kernel_rfl) c
  simp only[show AA5 c.toNat=true from h,if_true]at this
  exact this
def AB2 (n:Nat):List UInt8→Nat
  |[]=>n
  |c::l=>AB2 (n * 16+H7 c.toNat) l
theorem AAL: ∀(l:List UInt8) (n:Nat),l.all TP=true→AB2 n l<(n+1) * 16^l.length
  |[],n,_=>by simp[AB2]
  | c::l,n,h=>by
    simp only[List.all_cons,Bool.and_eq_true]at h
    have:=AAL l (n * 16+H7 c.toNat) h.2
    have hd:=AHg c h.1
    rw[AB2,List.length_cons,Nat.pow_succ]
    have e:(n * 16+H7 c.toNat+1) * 16^l.length≤(n+1) * 16 * 16^l.length:=Nat.mul_le_mul_right _ (by omega)
    have:(n+1) * 16 * 16^l.length=(n+1) * (16^l.length * 16):=by rw[Nat.mul_assoc,Nat.mul_comm 16]
    omega
end
end Go.VM
namespace Go.VM
section
variable{N:Nat}
def Kn:List UInt8→Option Nat
  |x::y::a::b::c::d::_=>if x=92∧y=117∧ [a,b,c,d].all TP=true then some (AB2 0 [a,b,c,d])else none
  |_=>none
theorem Ww{t:List UInt8} (h:t.length<6):Kn t=none:=by
  match t,h with
  |[],_=>rfl
  |[_],_=>rfl
  |[_,_],_=>rfl
  |[_,_,_],_=>rfl
  |[_,_,_,_],_=>rfl
  |[_,_,_,_,_],_=>rfl
  |_::_::_::_::_::_::_,h=>simp at h;omega
theorem six{t:List UInt8} (h: ¬t.length<6): ∃x y a b c d r,t=x::y::a::b::c::d::r:=by
  match t,h with
  |x::y::a::b::c::d::r,_=>exact⟨x,y,a,b,c,d,r,rfl⟩
  |[],h=>simp at h
  |[_],h=>simp at h
  |[_,_],h=>simp at h
  |[_,_,_],h=>simp at h
  |[_,_,_,_],h=>simp at h
  |[_,_,_,_,_],h=>simp at h
theorem AFy{t:List UInt8}{n:Nat} (h:Kn t=some n):n<65536∧6≤t.length∧ ∃r,t=92::117::r:=by
  by_cases h6:t.length<6
  · rw[Ww h6]at h;cases h
  · obtain⟨x,y,a,b,c,d,r,rfl⟩:=six h6
    simp only[Kn]at h
    by_cases hc:x=92∧y=117∧ [a,b,c,d].all TP=true
    · rw[if_pos hc]at h
      simp only[Option.some.injEq]at h;subst h
      have:=AAL [a,b,c,d] 0 hc.2.2
      obtain⟨rfl,rfl,_⟩:=hc
      exact⟨by simpa using this,by simp,_,rfl⟩
    · rw[if_neg hc]at h;cases h
def AAa (n:Nat):Option UInt8:=
  if n=34 then some 34 else if n=92 then some 92 else if n=47 then some 47 else if n=98 then some 8 else if n=102 then some 12 else if n=110 then some 10 else if n=114 then some 13 else if n=116 then some 9 else none
def AKM (hi lo:Nat):Nat:=65536+(hi-55296) * 1024+lo-56320
def Og (t:List UInt8):List UInt8×Nat×Int:=
  match Kn t with
  | some hi=>
    if 55296≤hi∧hi≤56319 then
      match Kn (t.drop 6)with
      |some lo=>if 56320≤lo∧lo≤57343 then(AFl (AKM hi lo),12,0)else([],0,7)
      |none=>([],0,7)
    else if 56320≤hi∧hi≤57343 then([],0,7)else(AFl hi,6,0)
  | none=>
    match t with
    |_::c::_=>match AAa c.toNat with|some b=>([b],2,0)|none=>([],0,130)
    |_=>([],0,130)
def Sv (t:List UInt8):List UInt8×Nat×Int:=
  match t with
  |_::c::_=>(match AAa c.toNat with|some b=>([b],2,0)|none=>([],0,130))
  |_=>([],0,130)
theorem ACo{t:List UInt8} (h:Kn t=none):Og t=Sv t:=by
  unfold Og Sv;rw[h]
theorem AAu{t:List UInt8}{hi:Nat} (h:Kn t=some hi):Og t=((
    if 55296≤hi∧hi≤56319 then
      match Kn (t.drop 6)with
      |some lo=>if 56320≤lo∧lo≤57343 then(AFl (AKM hi lo),12,0)else([],0,7)
      |none=>([],0,7)
    else if 56320≤hi∧hi≤57343 then([],0,7)else(AFl hi,6,0)):List UInt8×Nat×Int):=by
  unfold Og;rw[h]
end
end Go.VM
namespace Go.VM
section
variable{N:Nat}
theorem YH {t:List UInt8}{r n:Nat} (h:Kc t=some (r,n)):1≤n∧n≤t.length∧n≤4:=by
  match t,h with
  |[],h=>cases h
  | a :: t, h=>
    simp only[Kc]at h
    split at h
    · simp only[Option.some.injEq,Prod.mk.injEq]at h;obtain⟨_,rfl⟩:=h;simp
    · split at h
      · match t,h with
        |[],h=>cases h
        | b::t,h=>
          simp only at h
          split at h
          · simp only[Option.some.injEq,Prod.mk.injEq]at h;obtain⟨_,rfl⟩:=h;simp
          · cases h
      · split at h
        · match t,h with
          |[],h=>cases h
          |[_],h=>cases h
          | b::c::t,h=>
            simp only at h
            split at h
            · simp only[Option.some.injEq,Prod.mk.injEq]at h;obtain⟨_,rfl⟩:=h;simp
            · cases h
        · split at h
          · match t,h with
            |[],h=>cases h
            |[_],h=>cases h
            |[_,_],h=>cases h
            | b::c::d::t,h=>
              simp only at h
              split at h
              · simp only[Option.some.injEq,Prod.mk.injEq]at h;obtain⟨_,rfl⟩:=h;simp
              · cases h
          · cases h
def Gu:Nat→List UInt8→Nat→List UInt8→List UInt8×Nat×Int
  |0,_,_,_=>([],0,130)
  |_+1,[],_,_=>([],0,130)
  | k+1,c::t,i,out=>
    if c.toNat=34 then(out,i+1,0)
    else if c.toNat=92 then
      if(Og (c::t)).2.2=0 then Gu k ((c::t).drop (Og (c::t)).2.1) (i+(Og (c::t)).2.1) (out++(Og (c::t)).1)
      else([],0,(Og (c::t)).2.2)
    else if c.toNat<32 then([],0,130)
    else
      match Kc (c::t)with
      |some (_,n)=>Gu k ((c::t).drop n) (i+n) (out++(c::t).take n)
      |none=>([],0,7)
theorem Yf{n:Nat}{k:Nat}:((n:Int)==(k:Int))=decide (n=k):=by
  by_cases h:n=k
  · simp[h]
  · have: ¬(n:Int)=(k:Int):=by omega
    simp[h];omega
theorem Yz{i r n:Nat}:IG i (some (r,n))=((r:Int),((i+n:Nat):Int),0):=rfl
theorem head_drop{l t:List UInt8}{c:UInt8}{i:Nat} (ht:l.drop i=c::t):idx l (i:Int)=some c:=by
  have:=QU (j:=0) ht rfl
  simpa using this
section
variable{l:List UInt8}
end
end
end Go.VM
namespace Go.VM
section
variable{N:Nat}
theorem MP{α:Type} (p:α→Bool) (t:List α):t.take (t.takeWhile p).length=t.takeWhile p:=
  (List.prefix_iff_eq_take.1 (List.takeWhile_prefix p)).symm
theorem Xo{α:Type} (p:α→Bool) (t:List α):(t.takeWhile p).length≤t.length:=(List.takeWhile_sublist p).length_le
def DZ (c:UInt8):Bool:=decide (48≤c.toNat)&&decide (c.toNat≤57)
def AIi (n:Nat):Bool:=(decide (65≤n)&&decide (n≤90))||(decide (97≤n)&&decide (n≤122))
def JI (c:UInt8):Bool:=AIi c.toNat
def wsN (n:Nat):Bool:=decide (n=32)||decide (n=9)||decide (n=10)||decide (n=13)
def wsB (c:UInt8):Bool:=wsN c.toNat
theorem AAc (c:UInt8):FL N (Ap c)=some (DZ c):=
  Hd (f:=fun n=>FL N (n:Int)) (g:=fun n=>some (decide (48≤n)&&decide (n≤57))) (by kernel_rfl) c
theorem AAA (c:UInt8):D5 N (Ap c)=some (DZ c):=
  Hd (f:=fun n=>D5 N (n:Int)) (g:=fun n=>some (decide (48≤n)&&decide (n≤57))) (by kernel_rfl) c
theorem Ws (c:UInt8) (k2:Unit→Option Bool) (h:k2 ()=some false): ∀l:List UInt8,ES N (Ap c) k2 l=some (l.contains c)
  |[]=>by rw[ES];simpa using h
  | x::l=>by
    rw[ES,Ws c k2 h l,List.contains_cons]
    by_cases e:x=c
    · subst e;simp
    · have e1: ¬c=x:=fun h=>e h.symm
      have:(Ap x==Ap c)=false:=by
        have: ¬x.toNat=c.toNat:=fun h=>e (UInt8.toNat_inj.1 h)
        simp only[Ap,beq_eq_false_iff_ne,ne_eq];omega
      simp[this,e1]
theorem Tv (c:UInt8) (l:List UInt8) (h:l.length≤1000):GR N (Ap c) l=some (l.contains c):=by
  unfold GR
  rw[Am,UG (by omega)]
  exact Ws c _ rfl l
theorem index_ge: ∀(l:List UInt8) (c:UInt8),decide (Go.Lib.indexByte l c≥0)=l.contains c
  |[],c=>rfl
  | x::l,c=>by
    have ih:=index_ge l c
    have h:=Go.Lib.indexByte_ge l c
    rw[Go.Lib.indexByte,List.contains_cons]
    by_cases e:x=c
    · subst e;simp
    · have e1:(c==x)=false:=by simpa using fun h:c=x=>e h.symm
      have e2:(x==c)=false:=by simpa using e
      rw[e1,e2,Bool.false_or,←ih]
      simp only[Bool.false_eq_true,if_false]
      by_cases k:Go.Lib.indexByte l c= -1
      · simp[k]
      · have k':(Go.Lib.indexByte l c== -1)=false:=by simpa using k
        rw[k'];simp only[Bool.false_eq_true,if_false]
        congr 1;simp only[eq_iff_iff];omega
theorem RU (l:List UInt8) (c:UInt8):strings_IndexByte N l (Ap c)=some (Go.Lib.indexByte l c):=by
  unfold strings_IndexByte Bq;rw[J8];rfl
section
variable{l:List UInt8}
theorem XP (hb:l.length≤2^50) (s:Int) (k2:Int→Option (List UInt8×TokenReader)): ∀(t:List UInt8) (i:Nat),l.drop i=t→i≤l.length→Az N ⟨l,s⟩ k2 t.length (i:Int)=k2 ((i+(t.takeWhile DZ).length:Nat):Int)
  |[],i,ht,hi=>by rw[List.length_nil,Az];rfl
  | c::t,i,ht,hi=>by
    have hl:=Fz ht hi
    simp only[List.length_cons]at hl
    rw[List.length_cons,Az]
    rw[head_drop ht,Option.bind_some,AAc,Option.bind_some,List.takeWhile_cons]
    cases DZ c
    · simp
    · rw[if_pos rfl,if_pos rfl,show(i:Int)+1=((i+1:Nat):Int) by simp,XP hb s k2 t (i+1) (by rw[←List.drop_drop,ht];rfl) (by omega)]
      rw[List.length_cons];congr 2;omega
variable{t:List UInt8}{i:Nat}
theorem ACw (p:UInt8→Bool) (ht:l.drop i=t) (hi:i≤l.length):sub l (i:Int) ((i+(t.takeWhile p).length:Nat):Int)=some (t.takeWhile p):=by
  have hl:=Fz ht hi
  have:=Xo p t
  rw[Gw l i _ (by omega) (by omega),Nat.add_sub_cancel_left,ht,MP]
theorem AFB (ht:l.drop i=t) (hi:i≤l.length) (hb:l.length≤2^50):Bt N ⟨l,(i:Int)⟩=some (t.takeWhile DZ,⟨l,((i+(t.takeWhile DZ).length:Nat):Int)⟩):=by
  have hl:=Fz ht hi
  unfold Bt
  rw[Am,Ab (by simp only[];omega)]
  rw[show((l.length:Int)-(i:Int)).toNat=t.length by omega,XP hb _ _ t i ht hi]
  simp only[]
  rw[ACw DZ ht hi,Option.bind_some]
def Cq (set t:List UInt8):Bool:=match t with|c::_=>set.contains c|[]=>false
theorem La (set:List UInt8) (ht:l.drop i=t) (hi:i≤l.length) (hb:l.length≤2^50):Bp N ⟨l,(i:Int)⟩ set=some (Cq set t,⟨l,((i+(if Cq set t=true then 1 else 0):Nat):Int)⟩):=by
  have hl:=Fz ht hi
  unfold Bp
  rw[Am]
  match t,ht,hl with
  | [],ht,hl=>
    simp only[List.length_nil]at hl
    have c: ¬(i:Int)<(l.length:Int):=by omega
    rw[if_neg (by simpa using c)];rfl
  | c::t,ht,hl=>
    simp only[List.length_cons]at hl
    have c0:(i:Int)<(l.length:Int):=by omega
    rw[if_pos (decide_eq_true c0)]
    simp only[]
    rw[head_drop ht,Option.bind_some,RU,Option.bind_some,index_ge,A8 (by omega)]
    have key: ∀b:Bool,(if b=true then some (true,(⟨l,(i:Int)+1⟩:TokenReader))else some (false,(⟨l,(i:Int)⟩:TokenReader)))=some (b,(⟨l,((i+(if b=true then 1 else 0):Nat):Int)⟩:TokenReader)):=by
      intro b;cases b<;>simp
    exact key _
def EA (t:List UInt8):Nat:=(t.takeWhile DZ).length
theorem Kb (t:List UInt8):EA t≤t.length:=Xo _ _
theorem RO (t:List UInt8):(t.takeWhile DZ==[])=decide (EA t=0):=by
  unfold EA
  cases t.takeWhile DZ<;>simp
def A7 (t:List UInt8):Nat:=if Cq [45] t=true then 1 else 0
def C8 (t:List UInt8):Nat:=if Cq [48] t=true then 1 else EA t
def EK (t:List UInt8):Nat:=if Cq [46] t=true∧0<EA (t.drop 1)then 1+EA (t.drop 1)else 0
def Gr (t:List UInt8):Nat:=if Cq [43,45] (t.drop 1)=true then 1 else 0
def Io (t:List UInt8):Nat:=if Cq [101,69] t=true∧0<EA (t.drop (1+Gr t))then 1+Gr t+EA (t.drop (1+Gr t))else 0
def EE (t:List UInt8):Nat:=
  if C8 (t.drop (A7 t))=0 then 0
  else A7 t+C8 (t.drop (A7 t))+EK (t.drop (A7 t+C8 (t.drop (A7 t))))+
    Io (t.drop (A7 t+C8 (t.drop (A7 t))+EK (t.drop (A7 t+C8 (t.drop (A7 t))))))
theorem F5{set t:List UInt8} (h:Cq set t=true):0<t.length:=by
  cases t with
  |nil=>cases h
  |cons=>simp
theorem M5 (t:List UInt8):A7 t≤t.length:=by
  unfold A7;split
  · rename_i h;exact F5 h
  · omega
theorem Mk (t:List UInt8):C8 t≤t.length:=by
  unfold C8;split
  · rename_i h;exact F5 h
  · exact Kb t
theorem Ms (t:List UInt8):EK t≤t.length:=by
  unfold EK;split
  · rename_i h
    have:=F5 h.1
    have:=Kb (t.drop 1)
    rw[List.length_drop]at this;omega
  · omega
theorem Tw (t:List UInt8):Io t≤t.length:=by
  unfold Io;split
  · rename_i h
    have h1:=F5 h.1
    have:=Kb (t.drop (1+Gr t))
    rw[List.length_drop]at this
    have h2:=h.2
    omega
  · omega
theorem Z9 (t:List UInt8):EE t≤t.length:=by
  unfold EE
  split
  · omega
  · have h1:=M5 t
    have h2:=Mk (t.drop (A7 t))
    have h3:=Ms (t.drop (A7 t+C8 (t.drop (A7 t))))
    have h4:=Tw (t.drop (A7 t+C8 (t.drop (A7 t))+EK (t.drop (A7 t+C8 (t.drop (A7 t))))))
    simp only[List.length_drop]at h2 h3 h4
    omega
theorem QG{f:Int} (ht:l.drop i=t) (hi:i≤l.length) (hb:l.length≤2^50):Ce N ⟨l,(i:Int)⟩ f=some ⟨l,if 0<EA t then((i+EA t:Nat):Int)else f⟩:=by
  unfold Ce
  rw[AFB ht hi hb,Option.bind_some]
  simp only[RO]
  by_cases h:EA t=0
  · rw[if_pos (decide_eq_true h),if_neg (by omega)]
  · rw[if_neg (by simpa using h),if_pos (by omega)];rfl
theorem J3{a:Nat} (ht:l.drop i=t) (n:Nat) (h:a=i+n):l.drop a=t.drop n:=by rw[h,←List.drop_drop,ht]
theorem Py (ht:l.drop i=t) (hi:i≤l.length) (hb:l.length≤2^50):
    if EE t=0 then∃q,Cc N ⟨l,(i:Int)⟩=some ([],false,q)else Cc N ⟨l,(i:Int)⟩=some (t.take (EE t),true,⟨l,((i+EE t:Nat):Int)⟩):=by
  have hl:=Fz ht hi
  have h1:=M5 t
  have h2:=Mk (t.drop (A7 t))
  have h3:=Ms (t.drop (A7 t+C8 (t.drop (A7 t))))
  have h4:=Tw (t.drop (A7 t+C8 (t.drop (A7 t))+EK (t.drop (A7 t+C8 (t.drop (A7 t))))))
  simp only[List.length_drop]at h2 h3 h4
  unfold Cc
  rw[La [45] ht hi hb,Option.bind_some]
  change if EE t=0 then∃q,AZ _ _=some ([],false,q)else AZ _ _=_
  rw[show(if Cq [45] t=true then 1 else 0)=A7 t from rfl]
  have hta:=J3 ht (A7 t) rfl
  rw[La [48] hta (by omega) hb]
  simp only[Option.bind_some]
  have rest: ∀a:Nat,a=i+(A7 t+C8 (t.drop (A7 t)))→C8 (t.drop (A7 t))≠0→
      (AZ (fun j11:TokenReader=>AZ (fun j19:TokenReader=>Option.bind (sub j19.s (i:Int) j19.at_) fun x29=>some (x29,true,j19)) fun k20=>
        Option.bind (Bp N j11 ([101,69]:List UInt8)) fun y23=>if y23.1=true then Option.bind (Bp N y23.2 ([43,45]:List UInt8)) fun y25=>Option.bind (Ce N y25.2 j11.at_) fun y27=>k20 y27 else k20 y23.2) fun k12=>
      Option.bind (Bp N ⟨l,(a:Int)⟩ ([46]:List UInt8)) fun y15=>if y15.1=true then Option.bind (Ce N y15.2 (a:Int)) fun y17=>k12 y17 else k12 y15.2)=some (t.take (EE t),true,(⟨l,((i+EE t:Nat):Int)⟩:TokenReader)):=by
    intro a ha hne
    have htb:=J3 ht (A7 t+C8 (t.drop (A7 t))) ha
    have hnum:EE t=A7 t+C8 (t.drop (A7 t))+EK (t.drop (A7 t+C8 (t.drop (A7 t))))+Io (t.drop (A7 t+C8 (t.drop (A7 t))+EK (t.drop (A7 t+C8 (t.drop (A7 t)))))):=by
      unfold EE;rw[if_neg hne]
    have last: ∀b:Nat,b=i+(A7 t+C8 (t.drop (A7 t))+EK (t.drop (A7 t+C8 (t.drop (A7 t)))))→
        (AZ (fun j19:TokenReader=>Option.bind (sub j19.s (i:Int) j19.at_) fun x29=>some (x29,true,j19)) fun k20=>
          Option.bind (Bp N ⟨l,(b:Int)⟩ ([101,69]:List UInt8)) fun y23=>if y23.1=true then Option.bind (Bp N y23.2 ([43,45]:List UInt8)) fun y25=>Option.bind (Ce N y25.2 (b:Int)) fun y27=>k20 y27 else k20 y23.2)=some (t.take (EE t),true,(⟨l,((i+EE t:Nat):Int)⟩:TokenReader)):=by
      intro b hb'
      have htc:=J3 ht _ hb'
      have fin: ∀e:Nat,e=i+EE t→(Option.bind (sub l (i:Int) (e:Int)) fun x29=>some (x29,true,(⟨l,(e:Int)⟩:TokenReader)))=some (t.take (EE t),true,(⟨l,((i+EE t:Nat):Int)⟩:TokenReader)):=by
        rintro e rfl
        have:=Z9 t
        rw[Gw l i _ (by omega) (by omega),Option.bind_some,Nat.add_sub_cancel_left,ht]
      rw[Am,La [101,69] htc (by omega) hb,Option.bind_some]
      generalize hc:t.drop (A7 t+C8 (t.drop (A7 t))+EK (t.drop (A7 t+C8 (t.drop (A7 t)))))=c at *
      by_cases he:Cq [101,69] c=true
      · have hpos:=F5 he
        have hcl:c.length=t.length-(A7 t+C8 (t.drop (A7 t))+EK (t.drop (A7 t+C8 (t.drop (A7 t))))):=by rw[←hc,List.length_drop]
        simp only[he,if_true]
        rw[La [43,45] (J3 htc 1 rfl) (by omega) hb,Option.bind_some]
        rw[show(if Cq [43,45] (c.drop 1)=true then 1 else 0)=Gr c from rfl]
        have hes:Gr c≤c.length-1:=by
          unfold Gr;split
          · rename_i h;have:=F5 h;rw[List.length_drop]at this;omega
          · omega
        rw[QG (J3 htc (1+Gr c) (by omega)) (by omega) hb,Option.bind_some]
        by_cases hr:0<EA (c.drop (1+Gr c))
        · rw[if_pos hr]
          refine fin _ ?_
          rw[hnum,show Io c=1+Gr c+EA (c.drop (1+Gr c)) by unfold Io;rw[if_pos ⟨he,hr⟩]]
          omega
        · rw[if_neg hr]
          refine fin _ ?_
          rw[hnum,show Io c=0 by unfold Io;rw[if_neg (fun h=>hr h.2)]]
          omega
      · rw[Bool.not_eq_true]at he
        simp only[he,Bool.false_eq_true,if_false]
        refine fin _ ?_
        rw[hnum,show Io c=0 by unfold Io;rw[if_neg (by rw[he];simp)]]
        omega
    rw[Am,La [46] htb (by omega) hb,Option.bind_some]
    generalize hc:t.drop (A7 t+C8 (t.drop (A7 t)))=c at *
    by_cases he:Cq [46] c=true
    · have hpos:=F5 he
      have hcl:c.length=t.length-(A7 t+C8 (t.drop (A7 t))):=by rw[←hc,List.length_drop]
      simp only[he,if_true]
      rw[QG (J3 htb 1 rfl) (by omega) hb,Option.bind_some]
      by_cases hr:0<EA (c.drop 1)
      · rw[if_pos hr]
        refine last _ ?_
        rw[show EK c=1+EA (c.drop 1) by unfold EK;rw[if_pos ⟨he,hr⟩]]
        omega
      · rw[if_neg hr]
        refine last _ ?_
        rw[show EK c=0 by unfold EK;rw[if_neg (fun h=>hr h.2)]]
        omega
    · rw[Bool.not_eq_true]at he
      simp only[he,Bool.false_eq_true,if_false]
      refine last _ ?_
      rw[show EK c=0 by unfold EK;rw[if_neg (by rw[he];simp)]]
      omega
  have hnz:EE t=0↔C8 (t.drop (A7 t))=0:=by
    unfold EE
    constructor
    · intro h;by_cases k:C8 (t.drop (A7 t))=0
      · exact k
      · rw[if_neg k]at h;omega
    · intro h;rw[if_pos h]
  by_cases h0:Cq [48] (t.drop (A7 t))=true
  · have hin:C8 (t.drop (A7 t))=1:=by unfold C8;rw[if_pos h0]
    rw[if_neg (by rw[hnz,hin];decide)]
    simp only[h0,if_true]
    rw[Am]
    simp only[Bool.false_eq_true,if_false]
    exact rest _ (by rw[hin];omega) (by rw[hin];decide)
  · have hin:C8 (t.drop (A7 t))=EA (t.drop (A7 t)):=by unfold C8;rw[if_neg h0]
    rw[Bool.not_eq_true]at h0
    simp only[h0,Bool.false_eq_true,if_false,Nat.add_zero]
    rw[AFB hta (by omega) hb]
    simp only[Option.bind_some,Am,RO]
    by_cases hr:EA (t.drop (A7 t))=0
    · rw[if_pos (by rw[hnz,hin];exact hr)]
      simp only[hr,decide_true,if_true]
      exact⟨_,rfl⟩
    · rw[if_neg (by rw[hnz,hin];exact hr)]
      simp only[hr,decide_false,Bool.false_eq_true,if_false]
      have:=rest (i+A7 t+EA (t.drop (A7 t))) (by rw[hin];omega) (by rw[hin];exact hr)
      simp only[Am]at this
      exact this
end
end
end Go.VM
namespace Go.VM
section
variable{N:Nat}
theorem Ca{α β:Type}{K:α→Option β}{body:(α→Option β)→Option β}{a:α} (h: ∀k:α→Option β,body k=k a):AZ K body=K a:=h K
theorem Rm (l:List UInt8) (k2:Int→Option Int) (hb:l.length≤2^50): ∀(t:List UInt8) (i k:Nat),l.drop i=t→i≤l.length→t.length<k→Ev N l k2 k (i:Int)=k2 ((i+EA t:Nat):Int)
  | [],i,k+1,ht,hi,_=>by
    have hl:=Fz ht hi
    simp only[List.length_nil]at hl
    have c: ¬(i:Int)<(l.length:Int):=by omega
    rw[Ev,Am,if_neg (by simpa using c)]
    dsimp only
    rw[if_neg (by decide)];rfl
  | c::t,i,k+1,ht,hi,hk=>by
    have hl:=Fz ht hi
    simp only[List.length_cons]at hl hk
    have c0:(i:Int)<(l.length:Int):=by omega
    rw[Ev,Am,if_pos (decide_eq_true c0),head_drop ht,Option.bind_some,AAA,Option.bind_some]
    unfold EA
    rw[List.takeWhile_cons]
    cases DZ c
    · simp
    · dsimp only
      rw[if_pos rfl,if_pos rfl,A8 (by omega),show(i:Int)+1=((i+1:Nat):Int) by simp,Rm l k2 hb t (i+1) k (by rw[←List.drop_drop,ht];rfl) (by omega) (by omega)]
      rw[List.length_cons];unfold EA;congr 2;omega
theorem AF9 (t:List UInt8) (hb:t.length≤2^50) (hN:t.length<N):G9 N t=some ((EA t:Nat):Int):=by
  unfold G9
  rw[Am]
  have:=Rm (N:=N) t (fun j=>some j) hb t 0 N (by simp) (by omega) hN
  simpa using this
theorem QK (t:List UInt8) (i:Nat):G5 N t (i:Int)=some (t.drop i):=by
  unfold G5
  by_cases h:(i:Int)≥(t.length:Int)
  · rw[if_pos (decide_eq_true h),List.drop_of_length_le (by omega)]
  · rw[if_neg (by simpa using h),Gw t i t.length (by omega) (by omega),Option.bind_some,List.take_of_length_le (by simp)]
theorem Li{β:Type} (t:List UInt8) (i:Nat) (k:Bool→Option β) (f:UInt8→Option β) (set:List UInt8) (hf: ∀c r,t.drop i=c::r→f c=k (set.contains c)):
    (if decide ((i:Int)<(t.length:Int))=true then Option.bind (idx t (i:Int)) f else k false)=k (Cq set (t.drop i)):=by
  by_cases hi:i≤t.length
  · obtain⟨u,hu⟩: ∃u,t.drop i=u:=⟨_,rfl⟩
    have hl:=Fz hu hi
    rw[hu]
    cases u with
    | nil=>
      simp only[List.length_nil]at hl
      have c: ¬(i:Int)<(t.length:Int):=by omega
      rw[if_neg (by simpa using c)];rfl
    | cons c r=>
      simp only[List.length_cons]at hl
      have c0:(i:Int)<(t.length:Int):=by omega
      rw[if_pos (decide_eq_true c0),head_drop hu,Option.bind_some,hf c r hu];rfl
  · have c: ¬(i:Int)<(t.length:Int):=by omega
    rw[if_neg (by simpa using c),List.drop_of_length_le (by omega)];rfl
theorem Md (c:UInt8) (k:UInt8):([k]:List UInt8).contains c=decide (c.toNat=k.toNat):=by
  by_cases h:c=k
  · subst h;simp
  · have: ¬c.toNat=k.toNat:=fun e=>h (UInt8.toNat_inj.1 e)
    simp[h,this]
theorem AHL (c:UInt8):(Ap c==45)=([45]:List UInt8).contains c:=by rw[Md];exact Yf (k:=45)
theorem AK4 (c:UInt8):(Ap c==46)=([46]:List UInt8).contains c:=by rw[Md];exact Yf (k:=46)
theorem AK8 (c:UInt8):(Ap c==48)=([48]:List UInt8).contains c:=by rw[Md];exact Yf (k:=48)
theorem WH{t:List UInt8}:C8 t=0↔(t=[]∨ ∃c r,t=c::r∧DZ c=false):=by
  cases t with
  |nil=>exact⟨fun _=>.inl rfl,fun _=>rfl⟩
  | cons c r=>
    constructor
    · intro h
      refine .inr ⟨c,r,rfl,?_⟩
      unfold C8 at h
      split at h
      · cases h
      · unfold EA at h
        rw[List.takeWhile_cons]at h
        cases hd:DZ c
        · rfl
        · rw[hd]at h;simp at h
    · rintro(h|⟨c',r',h,hd⟩)
      · cases h
      · cases h
        have h48:Cq [48] (c::r)=false:=by
          show([48]:List UInt8).contains c=false
          rw[Md]
          have: ¬c.toNat=48:=fun e=>by simp[DZ,e]at hd
          simpa using this
        unfold C8;rw[h48,if_neg (by simp)]
        unfold EA;rw[List.takeWhile_cons,hd];rfl
theorem OD (t:List UInt8) (hb:t.length≤2^50) (hN:t.length<N):GA N t=some ((EE t:Nat):Int):=by
  have h1:=M5 t
  have h2:=Mk (t.drop (A7 t))
  have h3:=Ms (t.drop (A7 t+C8 (t.drop (A7 t))))
  have h4:=Tw (t.drop (A7 t+C8 (t.drop (A7 t))+EK (t.drop (A7 t+C8 (t.drop (A7 t))))))
  simp only[List.length_drop]at h2 h3 h4
  have run: ∀n:Nat,G9 N (t.drop n)=some ((EA (t.drop n):Nat):Int):=fun n=>AF9 _ (by rw[List.length_drop];omega) (by rw[List.length_drop];omega)
  have wn: ∀n:Nat,n≤2^51→wr .i64 (n:Int)=(n:Int):=fun n h=>KX (by omega)
  have w1: ∀n:Nat,n≤2^51→wr .i64 ((n:Int)+1)=((n+1:Nat):Int):=fun n h=>by rw[A8 (by omega)];simp
  have hsub:sub t (A7 t:Int) (t.length:Int)=some (t.drop (A7 t)):=by
    rw[Gw t (A7 t) t.length h1 (Nat.le_refl _),List.take_of_length_le (by simp)]
  have hs2:A7 t≤1:=by unfold A7;split<;>omega
  unfold GA
  refine(Ca (a:=((A7 t:Nat):Int)) fun k2=>(Ca (a:=Cq [45] t) fun k6=>?_).trans ?_).trans ?_
  · have key:=Li t 0 k6 (fun x9=>k6 (Ap x9==45)) [45] (fun c r _=>by rw[AHL])
    simpa using key
  · unfold A7
    cases Cq [45] t<;>rfl
  try dsimp only
  refine(Ca (a:=decide (C8 (t.drop (A7 t))=0)) fun k11=>?_).trans ?_
  · obtain⟨u,hu⟩: ∃u,t.drop (A7 t)=u:=⟨_,rfl⟩
    have hl:=Fz hu h1
    rw[hu]
    cases u with
    | nil=>
      simp only[List.length_nil]at hl
      rw[if_pos (by simp;omega)];rfl
    | cons c r=>
      simp only[List.length_cons]at hl
      rw[if_neg (by simp;omega),head_drop hu,Option.bind_some,AAA,Option.bind_some]
      congr 1
      cases hd:DZ c
      · rw[decide_eq_true (WH.2 (.inr ⟨c,r,rfl,hd⟩))];rfl
      · have: ¬C8 (c::r)=0:=fun h=>by
          rcases WH.1 h with h|⟨c',r',h,hd'⟩
          · cases h
          · cases h;rw[hd]at hd';cases hd'
        rw[decide_eq_false this];rfl
  try dsimp only
  by_cases hz:C8 (t.drop (A7 t))=0
  · rw[if_pos (decide_eq_true hz)]
    unfold EE;rw[if_pos hz];rfl
  rw[if_neg (by simpa using hz)]
  have hnum:EE t=A7 t+C8 (t.drop (A7 t))+EK (t.drop (A7 t+C8 (t.drop (A7 t))))+Io (t.drop (A7 t+C8 (t.drop (A7 t))+EK (t.drop (A7 t+C8 (t.drop (A7 t)))))):=by
    unfold EE;rw[if_neg hz]
  refine(Ca (a:=((A7 t+C8 (t.drop (A7 t)):Nat):Int)) fun k18=>?_).trans ?_
  · obtain⟨u,hu⟩: ∃u,t.drop (A7 t)=u:=⟨_,rfl⟩
    cases u with
    |nil=>rw[hu]at hz;exact absurd rfl hz
    | cons c r=>
      rw[head_drop hu,Option.bind_some,AK8,hsub,Option.bind_some,run]
      rw[hu]at h2⊢
      rw[show([48]:List UInt8).contains c=Cq [48] (c::r)from rfl]
      unfold C8 at h2⊢
      by_cases h0:Cq [48] (c::r)=true
      · rw[if_pos h0]at h2
        rw[if_pos h0,if_pos h0,w1 _ (by omega)]
      · rw[if_neg h0]at h2
        rw[if_neg h0,if_neg h0,Option.bind_some,A8 (by omega)];congr 1
  try dsimp only
  rw[w1 _ (by omega),QK]
  generalize hi':A7 t+C8 (t.drop (A7 t))=i at *
  have hil:i≤t.length:=by omega
  refine(Ca (a:=((i+EK (t.drop i):Nat):Int)) fun k26=>?_).trans ?_
  · rw[Option.bind_some,run,Option.bind_some]
    have hr:=Kb (t.drop (i+1))
    rw[List.length_drop]at hr
    refine(Ca (a:=Cq [46] (t.drop i)&&decide (0<EA (t.drop (i+1)))) fun k34=>?_).trans ?_
    · refine(Li t i (fun b=>k34 (b&&decide (0<EA (t.drop (i+1))))) _ [46] (fun c r _=>?_)).trans rfl
      rw[AK4]
      cases ([46]:List UInt8).contains c
      · rfl
      · rw[if_pos rfl];congr 1;rw[Bool.true_and];congr 1;simp only[eq_iff_iff];omega
    try dsimp only
    unfold EK
    rw[List.drop_drop]
    by_cases hc:Cq [46] (t.drop i)=true∧0<EA (t.drop (i+1))
    · rw[if_pos (by simpa using hc),if_pos hc,A8 (n:=1+_) (by omega),A8 (by omega)];congr 1
    · rw[if_neg (by simpa using hc),if_neg hc];rfl
  try dsimp only
  generalize hj:i+EK (t.drop i)=j at *
  have hjl:j≤t.length:=by omega
  rw[w1 _ (by omega)]
  refine(Ca (a:=((j+Io (t.drop j):Nat):Int)) fun k39=>?_).trans ?_
  · refine(Ca (a:=Cq [101,69] (t.drop j)) fun k43=>Li t j k43 _ [101,69] (fun c r _=>by rw[Tv _ _ (by decide),Option.bind_some])).trans ?_
    try dsimp only
    by_cases he:Cq [101,69] (t.drop j)=true
    · rw [if_pos he]
      have hpos:=F5 he
      rw[List.length_drop]at hpos
      have hes:Gr (t.drop j)≤t.length-j-1:=by
        unfold Gr;split
        · rename_i h
          have:=F5 h
          simp only[List.length_drop]at this;omega
        · omega
      refine(Ca (a:=((j+(1+Gr (t.drop j)):Nat):Int)) fun k50=>(Ca (a:=Cq [43,45] (t.drop (j+1))) fun k54=>Li t (j+1) k54 _ [43,45] (fun c r _=>by rw[Tv _ _ (by decide),Option.bind_some])).trans ?_).trans ?_
      · try dsimp only
        unfold Gr
        rw[List.drop_drop]
        by_cases h:Cq [43,45] (t.drop (j+1))=true
        · rw[if_pos h,if_pos h,w1 _ (by omega)]
        · rw[if_neg h,if_neg h]
      try dsimp only
      rw[QK,Option.bind_some,run,Option.bind_some]
      have hr:=Kb (t.drop (j+(1+Gr (t.drop j))))
      rw[List.length_drop]at hr
      have hex:Io (t.drop j)=if 0<EA (t.drop (j+(1+Gr (t.drop j))))then 1+Gr (t.drop j)+EA (t.drop (j+(1+Gr (t.drop j))))else 0:=by
        unfold Io
        rw[List.drop_drop]
        by_cases h:0<EA (t.drop (j+(1+Gr (t.drop j))))
        · rw[if_pos ⟨he,h⟩,if_pos h]
        · rw[if_neg (fun k=>h k.2),if_neg h]
      rw[hex]
      by_cases h:0<EA (t.drop (j+(1+Gr (t.drop j))))
      · rw[if_pos (by simp;omega),if_pos h,A8 (by omega)];congr 1;omega
      · rw[if_neg (by simp;omega),if_neg h];rfl
    · rw[if_neg he,show Io (t.drop j)=0 by unfold Io;rw[if_neg (fun k=>he k.1)]];rfl
  try dsimp only
  rw[hnum]
end
end Go.VM
namespace Go.VM
section
variable{N:Nat}
def PO:List UInt8:=[123,125,91,93,58,44]
def isWord (w:List UInt8):Bool:=w==[116,114,117,101]||(w==[102,97,108,115,101]||w==[110,117,108,108])
def R3 (e:Int):ApiToken×Int×Int:=(ApiToken.mk 0 [] 0,0,e)
def Vb (N:Nat) (p:Nat) (t:List UInt8):ApiToken×Int×Int:=
  match t with
  |[]=>(ApiToken.mk 1 [] p,p,0)
  | c::r=>
    if PO.contains c=true then(ApiToken.mk 2 [c] p,((p+1:Nat):Int),0)
    else if c.toNat=34 then
      if(Gu N r (p+1) []).2.2=0 then(ApiToken.mk 3 (Gu N r (p+1) []).1 p,((Gu N r (p+1) []).2.1:Int),0)else R3 (Gu N r (p+1) []).2.2
    else if(([45]:List UInt8).contains c||DZ c)=true then
      if EE (c::r)=0 then R3 130 else(ApiToken.mk 4 ((c::r).take (EE (c::r))) p,((p+EE (c::r):Nat):Int),0)
    else if isWord ((c::r).takeWhile JI)=true then(ApiToken.mk 5 ((c::r).takeWhile JI) p,((p+((c::r).takeWhile JI).length:Nat):Int),0)
    else R3 130
theorem Lp (N p:Nat) (c:UInt8) (r:List UInt8):Vb N p (c::r)=(
  if PO.contains c=true then(ApiToken.mk 2 [c] p,((p+1:Nat):Int),0)
  else if c.toNat=34 then
    if(Gu N r (p+1) []).2.2=0 then(ApiToken.mk 3 (Gu N r (p+1) []).1 p,((Gu N r (p+1) []).2.1:Int),0)else R3 (Gu N r (p+1) []).2.2
  else if(([45]:List UInt8).contains c||DZ c)=true then
    if EE (c::r)=0 then R3 130 else(ApiToken.mk 4 ((c::r).take (EE (c::r))) p,((p+EE (c::r):Nat):Int),0)
  else if isWord ((c::r).takeWhile JI)=true then(ApiToken.mk 5 ((c::r).takeWhile JI) p,((p+((c::r).takeWhile JI).length:Nat):Int),0)
  else R3 130):=rfl
section
variable{l t:List UInt8}{i p:Nat}
end
end
end Go.VM
