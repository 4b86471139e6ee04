import Derived.Test.YtjgdhjpafjpjgaaGreatDoorVM2
import GoSem.Claim
import Derived.Test.YtjgdhjpafjpjgaaGreatDoorDefs
import Derived.KernelRfl
set_option linter.unusedVariables false
set_option linter.unusedSimpArgs false
namespace Go.VM
theorem BF{n:Int} (h: -9223372036854775808≤n∧n≤9223372036854775807):wr .i64 n=n:=by
  simp[wr,IntKind.wrap,IntKind.bits,IntKind.signed];omega
theorem Io{α:Type} (l:List α) (n:Nat):idx l (n:Int)=l[n]?:=by simp[idx]
theorem AHa{α:Type} (pre suf:List α) (x:α):idx (pre++x::suf) (pre.length:Int)=some x:=by simp[idx]
theorem ADf{α:Type} (pre:List α) (x:α):(pre.length:Int)+1=((pre++[x]).length:Int):=by simp
theorem CR{α:Type} (l:List α) (a b:Nat) (h1:a≤b) (h2:b≤l.length):sub l (a:Int) (b:Int)=some ((l.drop a).take (b-a)):=by
  have h1':(a:Int)≤b:=by omega
  have h2':(b:Int)≤l.length:=by omega
  simp[sub,h1',h2']
theorem AZ{α:Type}{c:Prop} [Decidable c]{x:Option α} (h:c):grd c x=x:=by simp[grd,h]
theorem BP{α:Type}{n:Nat}{x:Option α} (h:n≤4611686018427387904):grd (AX n) x=x:=AZ h
theorem AL{α β:Type} (k:α→Option β) (body:(α→Option β)→Option β):AQ k body=body k:=rfl
theorem wf_u8{n:Int} (h:(Lit.int .u8 n).wf=true):0≤n∧n≤255:=by
  simp only[Lit.wf,Bool.and_eq_true,decide_eq_true_eq]at h
  have e1:IntKind.u8.min=0:=by decide
  have e2:IntKind.u8.max=255:=by decide
  rw[e1,e2]at h;exact h
end Go.VM
namespace Go.VM
theorem Hl (c:UInt8):AJ c=(c.toNat:Int):=rfl
theorem IM (c:UInt8):E9 (AJ c)=c:=by simp[E9,AJ]
theorem toNat_ofNat{n:Nat} (h:n<256):(UInt8.ofNat n).toNat=n:=by simp;omega
theorem AIm{P:Nat→Prop} [∀n,Decidable (P n)] (h:(List.range 256).all (fun n=>decide (P n))=true) (c:UInt8):P c.toNat:=by
  have:=List.all_eq_true.1 h c.toNat (List.mem_range.2 c.toNat_lt)
  simpa using this
theorem VS{n:Int} (h:0≤n∧n<256):wr .u8 n=n:=by
  simp[wr,IntKind.wrap,IntKind.bits,IntKind.signed];omega
theorem Hd{n:Int} (h:0≤n∧n<18446744073709551616):wr .u64 n=n:=by
  simp[wr,IntKind.wrap,IntKind.bits,IntKind.signed];omega
theorem AGl{n:Nat}:wr .u8 (n:Int)=((n % 256:Nat):Int):=by
  simp[wr,IntKind.wrap,IntKind.bits,IntKind.signed]
theorem AGG:(List.range 256).all (fun n=>decide (
    KZ .u8 (n:Int) 127=((n / 128 * 128:Nat):Int)∧KZ .u8 (n:Int) 31=((n / 32 * 32:Nat):Int)∧KZ .u8 (n:Int) 15=((n / 16 * 16:Nat):Int)∧KZ .u8 (n:Int) 7=((n / 8 * 8:Nat):Int)∧
    OT .u8 (n:Int) 127=((n % 128:Nat):Int)∧OT .u8 (n:Int) 31=((n % 32:Nat):Int)∧OT .u8 (n:Int) 15=((n % 16:Nat):Int)∧OT .u8 (n:Int) 7=((n % 8:Nat):Int)∧
    OT .u8 (n:Int) 192=((n / 64 * 64:Nat):Int)∧OT .u8 (n:Int) 63=((n % 64:Nat):Int)))=true:=by decide+kernel
theorem Yj (c:UInt8):KZ .u8 (AJ c) 15=((c.toNat / 16 * 16:Nat):Int):=(AIm AGG c).2.2.1
end Go.VM
namespace Go.VM
section
variable{N:Nat}
end
end Go.VM
namespace Go.VM
def Ok{α:Type} (x:Option α) (P:α→Prop):Prop:= ∃a,x=some a∧P a
section
variable{α β:Type}{P:α→Prop}{Q:β→Prop}
theorem Ok.ret{a:α} (h:P a):Ok (some a) P:=⟨a,rfl,h⟩
theorem Ok.bind{x:Option β}{f:β→Option α} (h:Ok x Q) (k: ∀b,Q b→Ok (f b) P):Ok (Option.bind x f) P:=by
  obtain⟨b,rfl,hb⟩:=h;exact k b hb
theorem Ok.ite{c:Bool}{x y:Option α} (h1:c=true→Ok x P) (h2:c=false→Ok y P):Ok (if c=true then x else y) P:=by
  cases c
  · simpa using h2 rfl
  · simpa using h1 rfl
theorem Ok.grd{c:Prop} [Decidable c]{x:Option α} (hc:c) (h:Ok x P):Ok (grd c x) P:=by rw[AZ hc];exact h
theorem Ok.meet (J:β→Prop){k:β→Option α}{body:(β→Option α)→Option α} (hk: ∀b,J b→Ok (k b) P) (hb: ∀k':β→Option α,(∀b,J b→Ok (k' b) P)→Ok (body k') P):Ok (AQ k body) P:=hb k hk
theorem Ok.letL{x:β}{f:β→Option α} (h:Ok (f x) P):Ok (letL x f) P:=h
theorem Ok.mono{x:Option α}{P':α→Prop} (h:Ok x P) (k: ∀a,P a→P' a):Ok x P':=by obtain⟨a,e,ha⟩:=h;exact⟨a,e,k a ha⟩
theorem Ok.eq{x:Option α}{a:α} (h:x=some a):Ok x (· =a):=⟨a,h,rfl⟩
theorem Ok.idx{l:List α}{i:Int} (h0:0≤i) (h1:i<l.length):Ok (idx l i) (fun x=>l[i.toNat]?=some x):=by
  have:i.toNat<l.length:=by omega
  exact⟨l[i.toNat],by simp[VM.idx,h0,List.getElem?_eq_getElem this],List.getElem?_eq_getElem this⟩
theorem Ok.sub{l:List α}{a b:Int} (h0:0≤a) (h1:a≤b) (h2:b≤l.length):Ok (sub l a b) (fun x=>x=(l.drop a.toNat).take (b.toNat-a.toNat)∧x.length=(b-a).toNat):=by
  refine⟨_,by simp[VM.sub,h0,h1,h2],rfl,?_⟩
  simp;omega
end
end Go.VM
namespace Go.VM
section
variable{N:Nat}
theorem Im{α:Type}{l t:List α}{x:α}{i j:Nat} (h:l.drop i=t) (hx:t[j]?=some x):idx l ((i+j:Nat):Int)=some x:=by
  rw[Io,←List.getElem?_drop,h,hx]
theorem Hw{α:Type}{l t:List α}{i:Nat} (h:l.drop i=t) (hi:i≤l.length):l.length=i+t.length:=by
  have:=congrArg List.length h
  simp at this;omega
section
variable{l t:List UInt8}{i:Nat}{k13:Int→Option (Int×Int×Int)}
end
end
end Go.VM
namespace Go.VM
section
variable{N:Nat}
end
end Go.VM
namespace Go.VM
section
variable{N:Nat}
theorem Ba{α:Type} [DecidableEq α]{f g:Nat→α} (h:(List.range 256).all (fun n=>decide (f n=g n))=true) (c:UInt8):f c.toNat=g c.toNat:=by
  have:=List.all_eq_true.1 h c.toNat (List.mem_range.2 c.toNat_lt)
  simpa using this
def PU (n:Nat):Bool:=(decide (48≤n)&&decide (n≤57))||(decide (65≤n)&&decide (n≤70))||(decide (97≤n)&&decide (n≤102))
def KI (c:UInt8):Bool:=PU c.toNat
def Ht (n:Nat):Nat:=if n≤57 then n-48 else if n≤70 then n-55 else n-87
theorem Rf (c:UInt8) (h:KI c=true):Ht c.toNat<16:=by
  simp only[KI,PU,Bool.or_eq_true,Bool.and_eq_true,decide_eq_true_eq]at h
  unfold Ht;split<;>(try split)<;>omega
theorem AHp (c:UInt8):IX N (AJ c)=some (KI c):=
  Ba (f:=fun n=>IX N (n:Int)) (g:=fun n=>some (PU n)) (by kernel_rfl) c
theorem AHs (c:UInt8):Fe N (AJ c)=some (KI c):=
  Ba (f:=fun n=>Fe N (n:Int)) (g:=fun n=>some (PU n)) (by kernel_rfl) c
theorem AO9 (c:UInt8) (h:KI c=true):Ip N (AJ c)=some ((Ht c.toNat:Nat):Int):=by
  have:=Ba (f:=fun n=>if PU n=true then Ip N (n:Int)else none) (g:=fun n=>if PU n=true then some ((Ht n:Nat):Int)else none) (by kernel_rfl) c
  simp only[show PU c.toNat=true from h,if_true]at this
  exact this
end
end Go.VM
namespace Go.VM
section
variable{N:Nat}
end
end Go.VM
namespace Go.VM
section
variable{N:Nat}
section
variable{l:List UInt8}
end
end
end Go.VM
namespace Go.VM
section
variable{N:Nat}
theorem JK{α:Type} (p:α→Bool) (t:List α):t.take (t.takeWhile p).length=t.takeWhile p:=
  (List.prefix_iff_eq_take.1 (List.takeWhile_prefix p)).symm
theorem Lu{α:Type} (p:α→Bool) (t:List α):(t.takeWhile p).length≤t.length:=(List.takeWhile_sublist p).length_le
def Ep (c:UInt8):Bool:=decide (48≤c.toNat)&&decide (c.toNat≤57)
def WA (n:Nat):Bool:=(decide (65≤n)&&decide (n≤90))||(decide (97≤n)&&decide (n≤122))
def Iw (c:UInt8):Bool:=WA c.toNat
theorem Ph (c:UInt8):Br N (AJ c)=some (Ep c):=
  Ba (f:=fun n=>Br N (n:Int)) (g:=fun n=>some (decide (48≤n)&&decide (n≤57))) (by kernel_rfl) c
theorem Nt (c:UInt8):CU N (AJ c)=some (Ep c):=
  Ba (f:=fun n=>CU N (n:Int)) (g:=fun n=>some (decide (48≤n)&&decide (n≤57))) (by kernel_rfl) c
theorem Qp (c:UInt8):Eb N (AJ c)=some (Iw c):=
  Ba (f:=fun n=>Eb N (n:Int)) (g:=fun n=>some (WA n)) (by kernel_rfl) c
theorem Nn (c:UInt8):EH N (AJ c)=some (Iw c):=
  Ba (f:=fun n=>EH N (n:Int)) (g:=fun n=>some (WA n)) (by kernel_rfl) c
theorem ACn (c:UInt8) (k2:Unit→Option Bool) (h:k2 ()=some false): ∀l:List UInt8,Ef N (AJ c) k2 l=some (l.contains c)
  |[]=>by rw[Ef];simpa using h
  | x::l=>by
    rw[Ef,ACn c k2 h l,List.contains_cons]
    by_cases e:x=c
    · subst e;simp
    · have e1: ¬c=x:=fun h=>e h.symm
      have:(AJ x==AJ c)=false:=by
        have: ¬x.toNat=c.toNat:=fun h=>e (UInt8.toNat_inj.1 h)
        simp only[AJ,beq_eq_false_iff_ne,ne_eq];omega
      simp[this,e1]
theorem QN (c:UInt8) (l:List UInt8) (h:l.length≤1000):F5 N (AJ c) l=some (l.contains c):=by
  unfold F5
  rw[AL,BP (by omega)]
  exact ACn c _ rfl l
theorem JR (l:List UInt8) (c:UInt8):strings_IndexByte N l (AJ c)=some (Go.Lib.indexByte l c):=by
  unfold strings_IndexByte Aw;rw[IM];rfl
section
variable{l:List UInt8}
variable{t:List UInt8}{i:Nat}
end
end
end Go.VM
namespace Go.VM
section
variable{N:Nat}
theorem KJ{α β:Type}{K:α→Option β}{body:(α→Option β)→Option β}{a:α} (h: ∀k:α→Option β,body k=k a):AQ K body=K a:=h K
end
end Go.VM
namespace Go.VM
section
variable{N:Nat}
section
variable{l t:List UInt8}{i p:Nat}
end
end
end Go.VM
namespace Go.VM
section
variable{N:Nat}
section
variable{l:List UInt8}
end
theorem Gb: ∀l:List UInt8,List.map E9 (List.map AJ l)=l
  |[]=>rfl
  |c::l=>by rw[List.map_cons,List.map_cons,IM,Gb l]
end
end Go.VM
namespace Go.VM
section
variable{N:Nat}
def Cu (c:UInt8):Bool:=Iw c||(Ep c||([45,46,95,126]:List UInt8).contains c)
theorem P9 (c:UInt8):CF N (AJ c)=some (Cu c):=by
  have:=Ba (f:=fun n=>CF N (n:Int)) (g:=fun n=>some (Cu (UInt8.ofNat n))) (by kernel_rfl) c
  simp only[UInt8.ofNat_toNat]at this
  exact this
theorem Pi (c:UInt8):CJ N (AJ c)=some (Cu c):=by
  have:=Ba (f:=fun n=>CJ N (n:Int)) (g:=fun n=>some (Cu (UInt8.ofNat n))) (by kernel_rfl) c
  simp only[UInt8.ofNat_toNat]at this
  exact this
theorem VP (c:UInt8) (h:KI c=true):GG N (AJ c)=some ((Ht c.toNat:Nat):Int):=by
  have:=Ba (f:=fun n=>if PU n=true then GG N (n:Int)else none) (g:=fun n=>if PU n=true then some ((Ht n:Nat):Int)else none) (by kernel_rfl) c
  simp only[show PU c.toNat=true from h,if_true]at this
  exact this
theorem U5 (c:UInt8) (h:KI c=true):IE N (AJ c)=some ((Ht c.toNat:Nat):Int):=by
  have:=Ba (f:=fun n=>if PU n=true then IE N (n:Int)else none) (g:=fun n=>if PU n=true then some ((Ht n:Nat):Int)else none) (by kernel_rfl) c
  simp only[show PU c.toNat=true from h,if_true]at this
  exact this
def hx (a b:UInt8):UInt8:=UInt8.ofNat (16 * Ht a.toNat+Ht b.toNat)
theorem AUQ{x y:Nat} (hx:x<16) (hy:y<16):QQ .u8 (ANy .u8 (x:Int) 4) (y:Int)=AJ (UInt8.ofNat (16 * x+y)):=by
  have:=Ba (f:=fun n=>QQ .u8 (ANy .u8 ((n / 16:Nat):Int) 4) ((n % 16:Nat):Int)) (g:=fun n=>AJ (UInt8.ofNat n)) (by kernel_rfl) (UInt8.ofNat (16 * x+y))
  have e:(UInt8.ofNat (16 * x+y)).toNat=16 * x+y:=by rw[UInt8.toNat_ofNat'];omega
  simp only[e]at this
  rw[show(16 * x+y) / 16=x by omega,show(16 * x+y) % 16=y by omega]at this
  exact this
theorem AUj{x y:Nat} (hx:x<16) (hy:y<16):wr .u8 ((wr .u8 (16 * (x:Int)))+(y:Int))=AJ (UInt8.ofNat (16 * x+y)):=by
  have e:(UInt8.ofNat (16 * x+y)).toNat=16 * x+y:=by rw[UInt8.toNat_ofNat'];omega
  rw[VS (n:=16 * (x:Int)) (by omega),VS (by omega),Hl,e];omega
def H9:List UInt8→Option UInt8
  |a::b::_=>if(KI a&&KI b)=true then some (hx a b)else none
  |_=>none
def RO:Option UInt8→Int×Bool
  |some x=>(AJ x,true)
  |none=>(0,false)
section
variable{l t:List UInt8}{i:Nat}{c:UInt8}
theorem AHq (h:l.drop i=c::t) (hb:l.length≤2^40):Et N l (i:Int)=some (RO (H9 t)):=by
  have hi:i≤l.length:=by
    have:=congrArg List.length h
    simp only[List.length_drop,List.length_cons]at this;omega
  have hl:=Hw h hi
  simp only[List.length_cons]at hl
  unfold Et
  dsimp only[AL]
  rw[BF (by omega)]
  match t,h,hl with
  |[],h,hl=>simp only[List.length_nil]at hl;rw[if_pos (by rw[decide_eq_true_eq];omega),if_pos rfl];rfl
  |[a],h,hl=>simp only[List.length_cons,List.length_nil]at hl;rw[if_pos (by rw[decide_eq_true_eq];omega),if_pos rfl];rfl
  | a::b::r,h,hl=>
    simp only[List.length_cons]at hl
    rw[if_neg (by simp;omega),show wr .i64 ((i:Int)+1)=((i+1:Nat):Int) by rw[BF (by omega)];omega,show wr .i64 ((i:Int)+2)=((i+2:Nat):Int) by rw[BF (by omega)];omega,Im (j:=1) h rfl,Im (j:=2) h rfl,Option.bind_some,Option.bind_some,AHp,Option.bind_some,Option.bind_some,AHp,Option.bind_some]
    unfold H9
    cases ha:KI a
    · simp[RO,ha]
    · cases hb2:KI b
      · simp[RO,ha,hb2]
      · simp only[Bool.not_true,Bool.and_self,if_true,Bool.false_eq_true,if_false]
        rw[VP a ha,Option.bind_some,Option.bind_some,VP b hb2,Option.bind_some,AUQ (Rf a ha) (Rf b hb2)];simp[RO,ha,hb2,hx]
theorem AHx (h:l.drop i=37::t) (hb:l.length≤2^40):Gs N l (i:Int)=some (RO (H9 t)):=by
  have hi:i≤l.length:=by
    have:=congrArg List.length h
    simp only[List.length_drop,List.length_cons]at this;omega
  have hl:=Hw h hi
  simp only[List.length_cons]at hl
  unfold Gs
  dsimp only[AL]
  rw[show wr .i64 ((i:Int)+1)=((i+1:Nat):Int) by rw[BF (by omega)];omega,show wr .i64 ((i:Int)+2)=((i+2:Nat):Int) by rw[BF (by omega)];omega]
  match t,h,hl with
  |[],h,hl=>simp only[List.length_nil]at hl;rw[if_pos (by rw[decide_eq_true_eq];omega),if_pos rfl];rfl
  |[a],h,hl=>simp only[List.length_cons,List.length_nil]at hl;rw[if_pos (by rw[decide_eq_true_eq];omega),if_pos rfl];rfl
  | a::b::r,h,hl=>
    simp only[List.length_cons]at hl
    rw[if_neg (by simp;omega),show idx l (i:Int)=some 37 from Im (j:=0) h rfl,Option.bind_some,if_neg (by decide),Im (j:=1) h rfl,Im (j:=2) h rfl,Option.bind_some,Option.bind_some,AHs,Option.bind_some,Option.bind_some,AHs,Option.bind_some]
    unfold H9
    cases ha:KI a
    · simp[RO,ha]
    · cases hb2:KI b
      · simp[RO,ha,hb2]
      · simp only[Bool.not_true,Bool.and_self,if_true,Bool.false_eq_true,if_false]
        rw[U5 a ha,Option.bind_some,Option.bind_some,U5 b hb2,Option.bind_some,AUj (Rf a ha) (Rf b hb2)];simp[RO,ha,hb2,hx]
def NY:Nat→List UInt8→List UInt8→List UInt8×Int
  |0,_,_=>([],2)
  |_+1,[],out=>(out,0)
  |k+1,c::t,out=>if c=37 then(match H9 t with|some x=>NY k (t.drop 2) (out++[x])|none=>([],2))else NY k t (out++[c])
theorem JI{n:Nat} (h:n≤1000000000):ET n 1:=by unfold ET;omega
theorem Nk{x:UInt8} (h:H9 t=some x):2≤t.length:=by
  match t,h with
  |[],h=>cases h
  |[_],h=>cases h
  |_::_::_,_=>simp
theorem LK (c:UInt8):(AJ c==37)=decide (c=37):=by
  have:=Ba (f:=fun n=>((n:Int)==37)) (g:=fun n=>decide (UInt8.ofNat n=37)) (by kernel_rfl) c
  simp only[UInt8.ofNat_toNat]at this
  exact this
theorem Qo (hb:l.length≤100000): ∀(k:Nat) (t:List UInt8) (i:Nat) (out:List UInt8),l.drop i=t→i≤l.length→t.length<k→out.length≤i→
    Cw N l (fun j=>some (List.map E9 j,0)) k (List.map AJ out) (i:Int)=some (NY k t out)
  |0,t,i,out,_,_,h,_=>by omega
  | k+1,[],i,out,h,hi,hk,ho=>by
    have hl:=Hw h hi
    rw[Cw,if_neg (by simp at hl⊢;omega),Gb];rfl
  | k+1,c::t,i,out,h,hi,hk,ho=>by
    have hl:=Hw h hi
    simp only[List.length_cons]at hl hk
    rw[Cw,if_pos (by simp;omega),show idx l (i:Int)=some c from Im (j:=0) h rfl,Option.bind_some,AL,LK]
    have hd:l.drop (i+1)=t:=by rw[←List.drop_drop,h];rfl
    by_cases hc:c=37
    · rw[decide_eq_true hc,if_pos rfl,AHq h (by omega),Option.bind_some,NY,if_pos hc]
      cases he:H9 t with
      |none=>rfl
      | some x=>
        have:=Nk he
        simp only[RO,if_true]
        rw[AZ (JI (by simp;omega)),show wr .i64 (wr .i64 ((i:Int)+2)+1)=((i+3:Nat):Int) by rw[BF (n:=(i:Int)+2) (by omega),BF (by omega)];omega,show List.map AJ out++[AJ x]=List.map AJ (out++[x]) by simp]
        exact Qo hb k _ (i+3) (out++[x]) (by rw[show i+3=i+1+2 by omega,←List.drop_drop,hd]) (by omega) (by rw[List.length_drop];omega) (by simp;omega)
    · rw[decide_eq_false hc,if_neg (by decide),NY,if_neg hc]
      dsimp only
      rw[AZ (JI (by simp;omega)),show wr .i64 ((i:Int)+1)=((i+1:Nat):Int) by rw[BF (by omega)];omega,show List.map AJ out++[AJ c]=List.map AJ (out++[c]) by simp]
      exact Qo hb k t (i+1) (out++[c]) hd (by omega) (by omega) (by simp;omega)
theorem QS (hb:l.length≤100000): ∀(k:Nat) (t:List UInt8) (i:Nat) (out:List UInt8),l.drop i=t→i≤l.length→t.length<k→out.length≤i→
    D7 N l (fun j=>some (List.map E9 j,0)) k (List.map AJ out) (i:Int)=some (NY k t out)
  |0,t,i,out,_,_,h,_=>by omega
  | k+1,[],i,out,h,hi,hk,ho=>by
    have hl:=Hw h hi
    rw[D7,if_neg (by simp at hl⊢;omega),Gb];rfl
  | k+1,c::t,i,out,h,hi,hk,ho=>by
    have hl:=Hw h hi
    simp only[List.length_cons]at hl hk
    rw[D7,if_pos (by simp;omega),show idx l (i:Int)=some c from Im (j:=0) h rfl,Option.bind_some,AL,LK]
    have hd:l.drop (i+1)=t:=by rw[←List.drop_drop,h];rfl
    by_cases hc:c=37
    · subst hc
      rw[decide_eq_true rfl,if_pos rfl,AHx h (by omega),Option.bind_some,NY,if_pos rfl]
      cases he:H9 t with
      |none=>rfl
      | some x=>
        have:=Nk he
        simp only[RO,if_true]
        rw[AZ (JI (by simp;omega)),show wr .i64 (wr .i64 ((i:Int)+2)+1)=((i+3:Nat):Int) by rw[BF (n:=(i:Int)+2) (by omega),BF (by omega)];omega,show List.map AJ out++[AJ x]=List.map AJ (out++[x]) by simp]
        exact QS hb k _ (i+3) (out++[x]) (by rw[show i+3=i+1+2 by omega,←List.drop_drop,hd]) (by omega) (by rw[List.length_drop];omega) (by simp;omega)
    · rw[decide_eq_false hc,if_neg (by decide),NY,if_neg hc]
      dsimp only
      rw[AZ (JI (by simp;omega)),show wr .i64 ((i:Int)+1)=((i+1:Nat):Int) by rw[BF (by omega)];omega,show List.map AJ out++[AJ c]=List.map AJ (out++[c]) by simp]
      exact QS hb k t (i+1) (out++[c]) hd (by omega) (by omega) (by simp;omega)
end
def Dk (N:Nat) (s:List UInt8):List UInt8×Int:=if s.length>16384 then([],5)else NY N s []
theorem Km (s:List UInt8) (hN:20000≤N):Du N s=some (Dk N s):=by
  unfold Du Dk
  by_cases h:s.length>16384
  · rw[if_pos (by simp;omega),if_pos h]
  · rw[if_neg (by simp;omega),if_neg h,AL]
    exact Qo (l:=s) (by omega) N s 0 [] rfl (by omega) (by omega) (by simp)
theorem JF (s:List UInt8) (hN:20000≤N):EJ N s=some (Dk N s):=by
  unfold EJ Dk
  by_cases h:s.length>16384
  · rw[if_pos (by simp;omega),if_pos h]
  · rw[if_neg (by simp;omega),if_neg h,AL]
    exact QS (l:=s) (by omega) N s 0 [] rfl (by omega) (by omega) (by simp)
end
end Go.VM
namespace Go.VM
section
variable{N:Nat}
def Ms (n:Nat):UInt8:=([48,49,50,51,52,53,54,55,56,57,65,66,67,68,69,70]:List UInt8).getD n 0
def Ho (c:UInt8):List UInt8:=[37,Ms (c.toNat / 16),Ms (c.toNat % 16)]
theorem NV (c:UInt8):E8 N (AJ c)=some (Ho c):=by
  have:=Ba (f:=fun n=>E8 N (n:Int)) (g:=fun n=>some ([37,Ms (n / 16),Ms (n % 16)]:List UInt8)) (by kernel_rfl) c
  exact this
def M0 (also:List UInt8):Nat→List UInt8→List UInt8→List UInt8×Int
  |0,_,_=>([],2)
  |_+1,[],out=>(out,0)
  | k+1,c::t,out=>
    if c=37 then(match H9 t with|some x=>M0 also k (t.drop 2) (out++(if Cu x=true then [x]else Ho x))|none=>([],2))
    else if(Cu c||also.contains c)=true then M0 also k t (out++[c])else([],1)
section
variable{l also:List UInt8}
theorem Ny (hb:l.length≤100000) (ha:also.length≤1000): ∀(k:Nat) (t:List UInt8) (i:Nat) (out:List UInt8),l.drop i=t→i≤l.length→t.length<k→out.length≤3 * i→
    CG N l also (fun j=>some (List.map E9 j,0)) k (List.map AJ out) (i:Int)=some (M0 also k t out)
  |0,t,i,out,_,_,h,_=>by omega
  | k+1,[],i,out,h,hi,hk,ho=>by
    have hl:=Hw h hi
    rw[CG,if_neg (by simp at hl⊢;omega),Gb];rfl
  | k+1,c::t,i,out,h,hi,hk,ho=>by
    have hl:=Hw h hi
    simp only[List.length_cons]at hl hk
    rw[CG,if_pos (by simp;omega),AL,show idx l (i:Int)=some c from Im (j:=0) h rfl,Option.bind_some,bne,LK,M0]
    have hd:l.drop (i+1)=t:=by rw[←List.drop_drop,h];rfl
    by_cases hc:c=37
    · subst hc
      rw[decide_eq_true rfl,if_neg (by decide),if_pos rfl,AHx h (by omega),Option.bind_some]
      cases he:H9 t with
      |none=>rfl
      | some x=>
        have:=Nk he
        simp only[RO,if_true]
        rw[AL,Pi,Option.bind_some]
        have e3:wr .i64 (wr .i64 ((i:Int)+2)+1)=((i+3:Nat):Int):=by rw[BF (n:=(i:Int)+2) (by omega),BF (by omega)];omega
        cases hu:Cu x
        · rw[if_neg (by decide),NV,Option.bind_some,AZ (JI (by simp[Ho];omega))]
          dsimp only
          rw[e3,show List.map AJ out++List.map AJ (Ho x)=List.map AJ (out++Ho x) by simp]
          exact Ny hb ha k _ (i+3) (out++Ho x) (by rw[show i+3=i+1+2 by omega,←List.drop_drop,hd]) (by omega) (by rw[List.length_drop];omega) (by simp[Ho];omega)
        · rw[if_pos rfl,AZ (JI (by simp;omega))]
          dsimp only
          rw[e3,show List.map AJ out++[AJ x]=List.map AJ (out++[x]) by simp]
          exact Ny hb ha k _ (i+3) (out++[x]) (by rw[show i+3=i+1+2 by omega,←List.drop_drop,hd]) (by omega) (by rw[List.length_drop];omega) (by simp;omega)
    · rw[decide_eq_false hc,if_pos (by decide),if_neg hc,AL,Pi,Option.bind_some]
      have step:grd (ET ((List.map AJ out).length+1) 1) ((fun j6:List Int×Int=>CG N l also (fun j=>some (List.map E9 j,0)) k j6.1 (wr .i64 (j6.2+1))) (List.map AJ out++[AJ c],(i:Int)))=some (M0 also k t (out++[c])):=by
        rw[AZ (JI (by simp;omega))]
        dsimp only
        rw[show wr .i64 ((i:Int)+1)=((i+1:Nat):Int) by rw[BF (by omega)];omega,show List.map AJ out++[AJ c]=List.map AJ (out++[c]) by simp]
        exact Ny hb ha k t (i+1) (out++[c]) hd (by omega) (by omega) (by simp;omega)
      cases hu:Cu c
      · rw[if_neg (by decide),QN c also ha,Option.bind_some,Bool.false_or]
        cases hk2:also.contains c
        · rfl
        · simpa using step
      · rw[if_pos rfl]
        simpa using step
end
def CP (N:Nat) (s also:List UInt8):List UInt8×Int:=if s.length>16384 then([],5)else M0 also N s []
theorem JS (s also:List UInt8) (hN:20000≤N) (ha:also.length≤1000):D9 N s also=some (CP N s also):=by
  unfold D9 CP
  by_cases h:s.length>16384
  · rw[if_pos (by simp;omega),if_pos h]
  · rw[if_neg (by simp;omega),if_neg h,AL]
    exact Ny (l:=s) (by omega) ha N s 0 [] rfl (by omega) (by omega) (by simp)
def Gm (keep:List UInt8) (c:UInt8):List UInt8:=if(Cu c||(!decide (c=37)&&keep.contains c))=true then [c]else Ho c
theorem Sb (keep:List UInt8) (c:UInt8):(Gm keep c).length≤3:=by
  unfold Gm;split<;>simp[Ho]
theorem U0{keep:List UInt8} (ha:keep.length≤1000) (l:List UInt8) (hb:l.length≤1000000): ∀(t pre out:List UInt8),l=pre++t→out.length≤3 * pre.length→
    BX N l keep (fun j=>some j) t (pre.length:Int) out=some (out++t.flatMap (Gm keep))
  |[],pre,out,h,ho=>by rw[BX];simp
  | c::t,pre,out,h,ho=>by
    have hl:=congrArg List.length h
    simp only[List.length_append,List.length_cons]at hl
    have hlen:=Sb keep c
    have nxt: ∀x:List UInt8,x=Gm keep c→BX N l keep (fun j=>some j) t ((pre.length:Int)+1) (out++x)=some (out++(c::t).flatMap (Gm keep)):=fun x hx=>by
      have:=U0 ha l hb t (pre++[c]) (out++x) (by rw[h];simp) (by rw[hx];simp only[List.length_append,List.length_cons,List.length_nil];omega)
      rw[List.flatMap_cons,←List.append_assoc,←hx,←this]
      congr 1;simp
    have hsub:sub l (pre.length:Int) ((pre.length:Int)+1)=some [c]:=by
      rw[show(pre.length:Int)+1=((pre.length+1:Nat):Int) by omega,CR l _ _ (by omega) (by omega),h,List.drop_left]
      simp
    rw[BX,AL,AL,Pi,Option.bind_some]
    have yes:(Cu c||(!decide (c=37)&&keep.contains c))=true→Option.bind (sub l (pre.length:Int) ((pre.length:Int)+1)) (fun x18=>grd (AX (out.length+x18.length)) (BX N l keep (fun j=>some j) t ((pre.length:Int)+1) (out++x18)))=some (out++(c::t).flatMap (Gm keep)):=fun hy=>by
      rw[hsub,Option.bind_some,BP (by simp;omega)]
      exact nxt [c] (by unfold Gm;rw[if_pos hy])
    have no:(Cu c||(!decide (c=37)&&keep.contains c))=false→Option.bind (E8 N (AJ c)) (fun y19=>grd (AX (out.length+y19.length)) (BX N l keep (fun j=>some j) t ((pre.length:Int)+1) (out++y19)))=some (out++(c::t).flatMap (Gm keep)):=fun hy=>by
      rw[NV,Option.bind_some,BP (by simp[Ho];omega)]
      exact nxt (Ho c) (by unfold Gm;rw[hy,if_neg (by decide)])
    cases hu:Cu c
    · rw[if_neg (by decide),bne,LK]
      rw[hu,Bool.false_or]at yes no
      by_cases hc:c=37
      · rw[decide_eq_true hc]at yes no⊢
        simpa using no (by simp)
      · rw[decide_eq_false hc]at yes no⊢
        rw[if_pos (by decide),QN c keep ha,Option.bind_some]
        cases hk:keep.contains c
        · rw[hk]at no;simpa using no rfl
        · rw[hk]at yes;simpa using yes rfl
    · rw[if_pos rfl]
      rw[hu]at yes
      simpa using yes rfl
theorem Oi (s keep:List UInt8) (ha:keep.length≤1000) (hb:s.length≤1000000):Fu N s keep=some (s.flatMap (Gm keep)):=by
  unfold Fu
  rw[AL,BP (by omega)]
  simpa using U0 (N:=N) ha s hb s [] [] rfl (by simp)
end
end Go.VM
namespace Go.VM
section
variable{N:Nat}
theorem Gq (c:UInt8): ∀l:List UInt8,decide (Go.Lib.indexByte l c≥0)=l.contains c
  |[]=>rfl
  | b::l=>by
    have ih:=Gq c l
    have hge:=Go.Lib.indexByte_ge l c
    unfold Go.Lib.indexByte
    rw[List.contains_cons]
    by_cases h:b=c
    · subst h;simp
    · rw[if_neg (by simpa using h),show(c==b)=false by simpa using fun e=>h e.symm,Bool.false_or,←ih]
      by_cases h1:Go.Lib.indexByte l c= -1
      · rw[h1];rfl
      · rw[if_neg (by simpa using h1)]
        congr 1
        simp only[eq_iff_iff]
        constructor<;>intro<;>omega
theorem TU (out:List UInt8) (c:UInt8) (ho:out.length≤900000000):D5 N (List.map AJ out) (AJ c)=some (List.map AJ (out++Ho c)):=by
  have h1:=Ba (f:=fun n=>idx ([48,49,50,51,52,53,54,55,56,57,65,66,67,68,69,70]:List UInt8) (AQ1 .u8 (n:Int) 4)) (g:=fun n=>some (Ms (n / 16))) (by kernel_rfl) c
  have h2:=Ba (f:=fun n=>idx ([48,49,50,51,52,53,54,55,56,57,65,66,67,68,69,70]:List UInt8) (OT .u8 (n:Int) 15)) (g:=fun n=>some (Ms (n % 16))) (by kernel_rfl) c
  unfold D5
  rw[show AJ c=(c.toNat:Int)from rfl,h1,Option.bind_some,h2,Option.bind_some,AZ (JI (by simp;omega))]
  simp[Ho,AJ]
theorem VF{keep:List UInt8} (k2:List Int→Option (List UInt8)): ∀(t out:List UInt8),out.length+3 * t.length≤900000000→
    Bc N keep k2 t (List.map AJ out)=k2 (List.map AJ (out++t.flatMap (Gm keep)))
  |[],out,ho=>by rw[Bc];simp
  | c::t,out,ho=>by
    simp only[List.length_cons]at ho
    have hlen:=Sb keep c
    have nxt: ∀x:List UInt8,x=Gm keep c→Bc N keep k2 t (List.map AJ (out++x))=k2 (List.map AJ (out++(c::t).flatMap (Gm keep))):=fun x hx=>by
      rw[VF k2 t (out++x) (by rw[hx,List.length_append];omega),List.flatMap_cons,←List.append_assoc,←hx]
    have e1:List.map AJ out++[AJ c]=List.map AJ (out++[c]):=by simp
    rw[Bc]
    dsimp only[AL]
    rw[P9,Option.bind_some,TU out c (by omega),Option.bind_some,e1,AZ (JI (by simp;omega)),bne,LK,JR,Option.bind_some,Gq]
    have hE:Gm keep c=if(Cu c||(!decide (c=37)&&keep.contains c))=true then [c]else Ho c:=rfl
    cases hu:Cu c
    · by_cases hc:c=37
      · simp only[decide_eq_true hc,Bool.not_true,if_true,Bool.false_eq_true,if_false]
        exact nxt (Ho c) (by rw[hE,hu,decide_eq_true hc];rfl)
      · cases hk:keep.contains c
        · simp only[decide_eq_false hc,Bool.not_false,if_true,Bool.false_eq_true,if_false]
          exact nxt (Ho c) (by rw[hE,hu,decide_eq_false hc,hk];rfl)
        · simp only[decide_eq_false hc,Bool.not_false,if_true,Bool.false_eq_true,if_false]
          exact nxt [c] (by rw[hE,hu,decide_eq_false hc,hk];rfl)
    · simp only[if_true]
      exact nxt [c] (by rw[hE,hu];rfl)
theorem MQ (s keep:List UInt8) (hb:s.length≤1000000):ER N s keep=some (s.flatMap (Gm keep)):=by
  unfold ER
  rw[AL,BP (by omega)]
  have:=VF (N:=N) (keep:=keep) (fun j1=>some (List.map E9 j1)) s [] (by simp;omega)
  rw[Gb]at this
  exact this
section
variable{l also:List UInt8}
theorem OA (hb:l.length≤100000): ∀(k:Nat) (t:List UInt8) (i:Nat) (out:List UInt8),l.drop i=t→i≤l.length→t.length<k→out.length≤i→
    Bb N l also (fun j=>some (List.map E9 j,0)) k (i:Int) (List.map AJ out)=some (M0 also k t out)
  |0,t,i,out,_,_,h,_=>by omega
  | k+1,[],i,out,h,hi,hk,ho=>by
    have hl:=Hw h hi
    rw[Bb,if_neg (by simp at hl⊢;omega),Gb];rfl
  | k+1,c::t,i,out,h,hi,hk,ho=>by
    have hl:=Hw h hi
    simp only[List.length_cons]at hl hk
    rw[Bb,if_pos (by simp;omega)]
    dsimp only[AL]
    rw[show idx l (i:Int)=some c from Im (j:=0) h rfl,Option.bind_some,LK,M0]
    have hd:l.drop (i+1)=t:=by rw[←List.drop_drop,h];rfl
    by_cases hc:c=37
    · rw [decide_eq_true hc,if_pos rfl,if_pos hc,AHq h (by omega),Option.bind_some]
      cases he:H9 t with
      |none=>rfl
      | some x=>
        have:=Nk he
        simp only[RO,if_true]
        rw[P9,Option.bind_some]
        have e3:wr .i64 (wr .i64 ((i:Int)+2)+1)=((i+3:Nat):Int):=by rw[BF (n:=(i:Int)+2) (by omega),BF (by omega)];omega
        cases hu:Cu x
        · rw[if_neg (by decide),TU out x (by omega),Option.bind_some,e3]
          exact OA hb k _ (i+3) (out++Ho x) (by rw[show i+3=i+1+2 by omega,←List.drop_drop,hd]) (by omega) (by rw[List.length_drop];omega) (by simp[Ho];omega)
        · rw[if_pos rfl,AZ (JI (by simp;omega)),e3,show List.map AJ out++[AJ x]=List.map AJ (out++[x]) by simp]
          exact OA hb k _ (i+3) (out++[x]) (by rw[show i+3=i+1+2 by omega,←List.drop_drop,hd]) (by omega) (by rw[List.length_drop];omega) (by simp;omega)
    · rw[decide_eq_false hc,if_neg (by decide),if_neg hc,P9,Option.bind_some,JR,Option.bind_some,Gq]
      have step:grd (ET ((List.map AJ out).length+1) 1) (Bb N l also (fun j=>some (List.map E9 j,0)) k (wr .i64 ((i:Int)+1)) (List.map AJ out++[AJ c]))=some (M0 also k t (out++[c])):=by
        rw[AZ (JI (by simp;omega)),show wr .i64 ((i:Int)+1)=((i+1:Nat):Int) by rw[BF (by omega)];omega,show List.map AJ out++[AJ c]=List.map AJ (out++[c]) by simp]
        exact OA hb k t (i+1) (out++[c]) hd (by omega) (by omega) (by simp;omega)
      cases hu:Cu c
      · rw[if_neg (by decide),Bool.false_or]
        cases hk2:also.contains c
        · rfl
        · simpa using step
      · rw[if_pos rfl]
        simpa using step
end
theorem Hu (s also:List UInt8) (hN:20000≤N):CY N s also=some (CP N s also):=by
  unfold CY CP
  by_cases h:s.length>16384
  · rw[if_pos (by simp;omega),if_pos h]
  · rw[if_neg (by simp;omega),if_neg h,AL]
    exact OA (l:=s) (by omega) N s 0 [] rfl (by omega) (by omega) (by simp)
end
end Go.VM
namespace Go.VM
section
variable{N:Nat}
theorem Ij: ∀(l:List UInt8) (c:UInt8),Go.Lib.indexByte l c=if l.contains c=true then(((l.takeWhile (· !=c)).length:Nat):Int)else-1
  |[],c=>rfl
  | x::l,c=>by
    have ih:=Ij l c
    rw[Go.Lib.indexByte,List.contains_cons]
    by_cases e:x=c
    · subst e;simp
    · have e1:(c==x)=false:=by simpa using fun h:c=x=>e h.symm
      have e2:(x==c)=false:=by simpa using e
      have e3:(x !=c)=true:=by simpa using e
      rw[e1,e2,Bool.false_or,List.takeWhile_cons,e3]
      simp only[Bool.false_eq_true,if_false,if_true,List.length_cons]
      by_cases k:l.contains c=true
      · rw[if_pos k]at ih
        rw[if_pos k,ih]
        have:(((((l.takeWhile (· !=c)).length:Nat):Int))== -1)=false:=by
          simp only[beq_eq_false_iff_ne,ne_eq];omega
        rw[this];simp
      · rw[if_neg k]at ih
        rw[if_neg k,ih];rfl
theorem MZ{α:Type} (p:α→Bool) (l:List α):l.drop (l.takeWhile p).length=l.dropWhile p:=by
  have:=List.takeWhile_append_dropWhile (p:=p) (l:=l)
  conv=>lhs;rw[←this]
  rw[List.drop_append,List.drop_of_length_le (by rw[this];exact Nat.le_refl _),this]
  simp
def AY (c:UInt8) (l:List UInt8):List UInt8×List UInt8×Bool:=if l.contains c=true then(l.takeWhile (· !=c),(l.dropWhile (· !=c)).drop 1,true)else(l,[],false)
theorem Ih{c:UInt8}: ∀ {l:List UInt8},l.contains c=true→(l.takeWhile (· !=c)).length<l.length
  |[],h=>by cases h
  | x::l,h=>by
    rw[List.takeWhile_cons]
    by_cases e:x=c
    · subst e;simp
    · have e3:(x !=c)=true:=by simpa using e
      rw[List.contains_cons]at h
      have e1:(c==x)=false:=by simpa using fun h:c=x=>e h.symm
      rw[e1,Bool.false_or]at h
      rw[e3]
      have:=Ih h
      simp only[if_true,List.length_cons];omega
theorem MI (c:UInt8) (l:List UInt8) (hb:l.length≤2^60):strings_Cut N l [c]=some (AY c l):=by
  unfold strings_Cut EI Bn AY
  have hk: ∀k:Bool→Option Int,(if((([c]:List UInt8).length:Int)==0)=true then k true else k ([c]==l))=k ([c]==l):=fun k=>rfl
  have hI:(AQ (fun j1:Bool=>if j1=true then some (0:Int)else if((([c]:List UInt8).length:Int)==1)=true then Option.bind (idx [c] 0) fun x5=>Option.bind (Aw N l (AJ x5)) fun y6=>some y6 else if decide ((([c]:List UInt8).length:Int)≥(l.length:Int))=true then some (-1)else none) fun k2=>if((([c]:List UInt8).length:Int)==0)=true then k2 true else k2 ([c]==l))=some (Go.Lib.indexByte l c):=by
    refine(KJ (a:=[c]==l) fun k=>rfl).trans ?_
    by_cases h:([c]==l)=true
    · have:l=[c]:=by have:=beq_iff_eq.1 h;exact this.symm
      subst this
      simp[Go.Lib.indexByte]
    · rw[if_neg h,if_pos (by rfl),show idx [c] 0=some c from rfl,Option.bind_some]
      unfold Aw
      rw[IM];rfl
  rw[hI,Option.bind_some,Ij]
  by_cases h:l.contains c=true
  · have hlt:=Ih h
    simp only[h,if_true]
    generalize hn:(l.takeWhile (· !=c)).length=n at *
    have w:wr .i64 ((n:Int)+(([c]:List UInt8).length:Int))=((n+1:Nat):Int):=by rw[BF (by simp<;>omega)];simp
    rw[if_pos (by simp),show(0:Int)=((0:Nat):Int)from rfl,CR l 0 n (by omega) (by omega),Option.bind_some,w,CR l (n+1) l.length (by omega) (by omega),Option.bind_some,Option.bind_some]
    rw[List.drop_zero,Nat.sub_zero,←hn,JK,List.take_of_length_le (by simp),←List.drop_drop,MZ]
  · rw[if_neg h,if_neg h,if_neg (by decide),Option.bind_some]
theorem Es (c:UInt8) (l:List UInt8):(AY c l).1.length≤l.length∧(AY c l).2.1.length≤l.length:=by
  unfold AY
  split
  · refine⟨Lu _ _,?_⟩
    have:=(List.dropWhile_sublist (fun x=>x !=c) (l:=l)).length_le
    simp only[List.length_drop];omega
  · simp
def AEY (as:List Bool) (set:List UInt8):Prop:=as.length=256∧ ∀c:UInt8,as[c.toNat]?=some (set.contains c)
theorem AE6 (k2:List Bool→Option (List Bool×Bool)) (done:List UInt8): ∀(l:List UInt8) (done:List UInt8) (bn:List Bool),(∀c∈l,c.toNat<128)→AEY bn done→ ∃as,A9 N k2 l bn=k2 as∧AEY as (done++l)
  |[],done,bn,hl,hs=>⟨bn,by rw[A9],by simpa using hs⟩
  | x::l,done,bn,hl,hs=>by
    have hx:=hl x (by simp)
    have c1: ¬AJ x≥128:=by simp only[AJ];omega
    obtain⟨as,h1,h2⟩:=AE6 k2 done l (done++[x]) (bn.set x.toNat true) (fun c hc=>hl c (by simp[hc])) ⟨by simp[hs.1],fun c=>by
      rw[List.getElem?_set]
      by_cases e:x.toNat=c.toNat
      · have:x=c:=UInt8.toNat_inj.1 e
        subst this
        rw[if_pos rfl,if_pos (by rw[hs.1];exact x.toNat_lt)]
        simp
      · rw[if_neg e,hs.2 c]
        have: ¬c=x:=fun h=>e (by rw[h])
        simp[this]⟩
    refine⟨as,?_,by simpa using h2⟩
    rw[A9,if_neg (by simpa using c1),AZ (by simp only[AJ];omega),AZ (by rw[hs.1];simp only[AJ,Int.toNat_natCast];omega)]
    exact h1
theorem AMV (set:List UInt8) (hl: ∀c∈set,c.toNat<128) (hb:set.length≤1000): ∃as,strings_makeASCIISet N set=some (as,true)∧AEY as set:=by
  unfold strings_makeASCIISet
  rw[AL,AZ (by unfold AX;omega)]
  obtain⟨as,h1,h2⟩:=AE6 (N:=N) (fun j1=>grd (j1.length=256) (some (j1,true))) [] set [] (AEh 256) hl ⟨TP,fun c=>by
    have:=c.toNat_lt
    rw[AEh,List.getElem?_replicate,if_pos (by omega)];rfl⟩
  exact⟨as,by rw[h1,AZ h2.1],h2⟩
theorem AFG{as:List Bool}{set:List UInt8} (h:AEY as set) (c:UInt8):Cs N as (AJ c)=some (set.contains c,as):=by
  have:=c.toNat_lt
  unfold Cs
  rw[AZ (by simp only[AJ];omega),Hl,Io,h.2 c];rfl
def ALu (n:Nat):Nat:=if 65≤n∧n≤90 then n+32 else n
def Dc (c:UInt8):UInt8:=UInt8.ofNat (ALu c.toNat)
theorem ABK (l:List UInt8) (hb:l.length≤2^60) (k2:List Int→Option (List UInt8)): ∀(t pre:List UInt8),l=pre++t→DC N l k2 t (pre.length:Int) (List.map AJ (pre.map Dc)++List.map AJ t)=k2 (List.map AJ (l.map Dc))
  |[],pre,h=>by rw[DC,h];simp
  | c::t,pre,h=>by
    have hlen:pre.length<l.length:=by rw[h];simp
    have hc:=c.toNat_lt
    rw[DC]
    refine(KJ (a:=List.map AJ (pre.map Dc)++(AJ (Dc c)::List.map AJ t)) fun k7=>?_).trans ?_
    · rw [AZ (by omega),List.map_cons]
      have hi:idx (List.map AJ (pre.map Dc)++AJ c::List.map AJ t) (pre.length:Int)=some (AJ c):=by
        have:=AHa (List.map AJ (pre.map Dc)) (List.map AJ t) (AJ c)
        simpa using this
      rw[hi,Option.bind_some]
      refine(KJ (a:=decide (65≤c.toNat∧c.toNat≤90)) fun k12=>?_).trans ?_
      · by_cases h1:65≤c.toNat
        · have:(65:Int)≤AJ c:=by simp only[AJ];omega
          rw[if_pos (decide_eq_true this)]
          congr 1
          simp only[AJ,h1,true_and]
          congr 1;simp only[eq_iff_iff];omega
        · have: ¬(65:Int)≤AJ c:=by simp only[AJ];omega
          rw[if_neg (by simpa using this),decide_eq_false (fun h=>h1 h.1)]
      try dsimp only
      by_cases h1:65≤c.toNat∧c.toNat≤90
      · rw[if_pos (decide_eq_true h1),AZ (by simp<;>omega)]
        have e:Dc c=UInt8.ofNat (c.toNat+32):=by unfold Dc ALu;rw[if_pos h1]
        have e2:AJ (Dc c)=wr .u8 (AJ c+32):=by
          rw[e,VS (by simp only[AJ];omega)]
          simp only[AJ]
          rw[toNat_ofNat (by omega)];simp
        rw[←e2]
        congr 1
        simp
      · rw[if_neg (by simpa using h1)]
        have e:Dc c=c:=by unfold Dc ALu;rw[if_neg h1];simp
        rw[e]
    · try dsimp only
      have:=ABK l hb k2 t (pre++[c]) (by rw[h];simp)
      rw[←ADf]at this
      rw[←this]
      simp
theorem lower_eq (l:List UInt8) (hb:l.length≤2^60):Fa N l=some (l.map Dc):=by
  unfold Fa
  rw[AL,AZ (by unfold AX;omega)]
  have:=ABK (N:=N) l hb (fun j1=>grd (l.length≤j1.length∧AX l.length) (some (List.map E9 (List.take l.length j1)))) l [] rfl
  simp only[List.map_nil,List.nil_append,List.length_nil]at this
  rw[show(0:Int)=((0:Nat):Int)from rfl,this,AZ (by unfold AX;simp;omega),List.take_of_length_le (by simp)]
  congr 1
  induction l with
  |nil=>rfl
  |cons c l ih=>simp[IM]
end
end Go.VM
namespace Go.VM
section
variable{N:Nat}
theorem Q4: ∀l:List UInt8,List.map E9 (List.map AJ l)=l
  |[]=>rfl
  |c::l=>by rw[List.map_cons,List.map_cons,IM,Q4 l]
def Te:Nat→Nat→List UInt8→List UInt8
  |0,_,acc=>acc
  |k+1,n,acc=>if n / 10=0 then UInt8.ofNat (48+n % 10)::acc else Te k (n / 10) (UInt8.ofNat (48+n % 10)::acc)
def fmtS (n:Nat):List UInt8:=Te 20 n []
theorem ACH: ∀(k n:Nat) (acc:List UInt8),(Te k n acc).length≤acc.length+k
  |0,n,acc=>by simp[Te]
  | k+1,n,acc=>by
    rw[Te]
    split
    · simp<;>omega
    · have:=ACH k (n / 10) (UInt8.ofNat (48+n % 10)::acc)
      simp only[List.length_cons]at this;omega
theorem Lt (n:Nat):(fmtS n).length≤20:=by have:=ACH 20 n [];simpa[fmtS]using this
theorem AS9 (n:Nat):wr .u64 ((n:Int).tdiv 10)=if n<2^64 then((n / 10:Nat):Int)else wr .u64 ((n:Int).tdiv 10):=by
  split
  · rw[Int.tdiv_eq_ediv_of_nonneg (by omega),Hd (by omega)];simp
  · rfl
theorem ARg{n:Nat} (h:n<2^64):wr .u64 ((n:Int).tdiv 10)=((n / 10:Nat):Int):=by rw[AS9,if_pos h]
theorem ARh{n:Nat}:wr .u64 (48+(n:Int).tmod 10)=((48+n % 10:Nat):Int):=by
  rw[Int.tmod_eq_emod_of_nonneg (by omega),Hd (by omega)];simp
theorem Pf: ∀(k n:Nat) (acc:List UInt8),n<10^k→n<2^64→acc.length+k≤1000→ ∀m,k≤m→0<k→EU N m (n:Int) acc=some (Te k n acc)
  |0,n,acc,h,h2,ha,m,hm,hk=>by omega
  | k+1,n,acc,h,h2,ha,m+1,hm,hk=>by
    rw[EU,ARg h2,ARh,Te]
    rw[AZ (by unfold AX;simp<;>omega)]
    have e:(List.map E9 [wr .u8 ((48+n % 10:Nat):Int)]++acc)=UInt8.ofNat (48+n % 10)::acc:=by
      rw[AGl,Nat.mod_eq_of_lt (show 48+n % 10<256 by omega)];rfl
    rw[e]
    by_cases c:n / 10=0
    · rw[if_pos (by rw[c];rfl),if_pos c]
    · have c': ¬((((n / 10:Nat):Int))==0)=true:=by simp<;>omega
      rw[if_neg c',if_neg c]
      have hk2:0<k:=by
        cases k with
        |zero=>simp at h;omega
        |succ=>omega
      exact Pf k (n / 10) _ (by rw[Nat.pow_succ]at h;omega) (by omega) (by simp<;>omega) m (by omega) hk2
theorem Tg (n:Nat) (h:n<2^64) (hN:20≤N):G6 N (n:Int)=some (fmtS n):=by
  unfold G6 fmtS
  exact Pf 20 n [] (by omega) h (by simp) N hN (by omega)
theorem ADA (a:Nat) (x:Int) (acc:List Int):(List.replicate (a+1) 0++acc).set a x=List.replicate a 0++x::acc:=by
  rw[List.replicate_succ',List.append_assoc]
  simp
theorem Pm (k2:Int×Int×List Int→Option (List UInt8)) (R:List UInt8→Option (List UInt8)) (hk: ∀(n a:Nat) (acc:List UInt8),n<10→a≤19→acc.length+a=19→k2 ((n:Int),(a:Int),List.replicate (a+1) 0++acc.map AJ)=R (UInt8.ofNat (48+n)::acc)):
    ∀(j n a:Nat) (acc:List UInt8),n<10^(j+1)→n<2^64→j≤a→a≤19→acc.length+a=19→ ∀m,j<m→EF N k2 m (n:Int) (a:Int) (List.replicate (a+1) 0++acc.map AJ)=R (Te (j+1) n acc)
  |j,n,a,acc,h,h2,hj,ha,hl,0,hm=>by omega
  | j,n,a,acc,h,h2,hj,ha,hl,m+1,hm=>by
    rw[EF,Te]
    by_cases c:n / 10=0
    · have c': ¬(n:Int)≥10:=by omega
      rw[if_neg (by simpa using c'),if_pos c,Nat.mod_eq_of_lt (by omega)]
      exact hk n a acc (by omega) ha hl
    · have c':(n:Int)≥10:=by omega
      rw[if_pos (decide_eq_true c'),if_neg c]
      obtain⟨j,rfl⟩: ∃i,j=i+1:=⟨j-1,by
        cases j with
        |zero=>simp at h;omega
        |succ=>omega⟩
      obtain⟨a,rfl⟩: ∃i,a=i+1:=⟨a-1,by omega⟩
      rw[AZ (by omega),AZ (by simp<;>omega),ARg h2,ARh,AGl,Nat.mod_eq_of_lt (show 48+n % 10<256 by omega),BF (by omega)]
      rw[show((a+1:Nat):Int)-1=(a:Int) by simp,Int.toNat_natCast,ADA]
      have e:List.replicate (a+1) 0++((48+n % 10:Nat):Int)::List.map AJ acc=List.replicate (a+1) 0++List.map AJ (UInt8.ofNat (48+n % 10)::acc):=by
        rw[List.map_cons,Hl,toNat_ofNat (by omega)]
      rw[e]
      exact Pm k2 R hk j (n / 10) a _ (by rw[Nat.pow_succ]at h;omega) (by omega) (by omega) (by omega) (by simp<;>omega) m (by omega)
theorem SV (n:Nat) (h:n<2^64) (hN:20≤N):Ee N (n:Int)=some (fmtS n):=by
  unfold Ee fmtS
  rw[AL]
  refine Pm (N:=N) _ some (fun n a acc hn ha hl=>?_) 19 n 19 [] (by omega) h (by omega) (by omega) rfl N (by omega)
  have w:wr .u8 (wr .u64 (48+(n:Int)))=((48+n:Nat):Int):=by
    rw[Hd (by omega),show(48:Int)+(n:Int)=((48+n:Nat):Int) by simp,AGl,Nat.mod_eq_of_lt (by omega)]
  simp only[Int.toNat_natCast,w]
  rw[ADA]
  rw[AZ (by omega),AZ (by simp<;>omega),AZ (by omega),AZ (by unfold AX;simp<;>omega)]
  congr 1
  rw[List.drop_append,List.drop_of_length_le (by simp),List.length_replicate,Nat.sub_self,List.drop_zero,List.nil_append,List.take_of_length_le (by simp<;>omega),List.map_cons,Q4]
  rfl
end
end Go.VM
namespace Go.VM
structure NumP (s sg W F FR P EX:List UInt8):Prop where
  eq:s=sg++(W++(FR++EX))
  sg:sg=[]∨sg=[45]
  Wd:W.all Ep=true
  Wn:W≠ []
  fr:(FR=[]∧F=[])∨FR=46::F
  Fd:F.all Ep=true
  ex:(EX=[]∧P=[])∨EX=101::P∨EX=69::P
  pw:P=[]∨ ∃sn D,P=sn++D∧(sn=[]∨sn=[43]∨sn=[45])∧D≠ []∧D.all Ep=true
end Go.VM
namespace Go.VM
section
variable{N:Nat}
def HY:Nat→List UInt8→Nat
  |n,[]=>n
  |n,c::l=>HY (n * 10+Ht c.toNat) l
theorem TV: ∀(l:List UInt8) (n:Nat),n≤HY n l
  |[],n=>by rw[HY];exact Nat.le_refl _
  | c::l,n=>by
    have:=TV l (n * 10+Ht c.toNat)
    rw[HY];omega
theorem AAS{c:UInt8} (h:Ep c=true):48≤c.toNat∧c.toNat≤57:=by
  simpa[Ep]using h
theorem Rj{c:UInt8} (h:Ep c=true):KI c=true∧Ht c.toNat=c.toNat-48:=by
  have:=AAS h
  refine⟨?_,?_⟩
  · simp only[KI,PU,Bool.or_eq_true,Bool.and_eq_true,decide_eq_true_eq];omega
  · unfold Ht;rw[if_pos this.2]
theorem ARo (k2:Unit→Option (Int×Int)): ∀l:List UInt8,Ak N k2 l=if l.all Ep=true then k2 ()else some (0,1)
  |[]=>by rw[Ak];rfl
  | c::l=>by
    rw[Ak,Ph,Option.bind_some,ARo k2 l]
    cases h:Ep c<;>simp[h]
theorem ARm{m:Nat} (hm:m≤2^59) (k9:Int→Option (Int×Int)): ∀(l:List UInt8) (n:Nat),l.all Ep=true→n≤m→Aj N 10 (m:Int) k9 l (n:Int)=if HY n l≤m then k9 ((HY n l:Nat):Int)else some (0,4)
  |[],n,_,hn=>by rw[Aj,HY,if_pos hn]
  | c::l,n,h,hn=>by
    simp only[List.all_cons,Bool.and_eq_true]at h
    have hd:Ht c.toNat≤9:=by have:=AAS h.1;rw[(Rj h.1).2];omega
    obtain⟨hx,hv⟩:=Rj h.1
    rw[Aj,AO9 c hx,Option.bind_some,AL,AZ (by decide)]
    have w1:wr .u64 ((n:Int) * 10)=((n * 10:Nat):Int):=by rw[Hd (by omega)];simp
    have w2:wr .u64 (((n * 10:Nat):Int)+((Ht c.toNat:Nat):Int))=((n * 10+Ht c.toNat:Nat):Int):=by rw[Hd (by omega)];simp
    have w3:wr .u64 (18446744073709551615-((Ht c.toNat:Nat):Int))=18446744073709551615-((Ht c.toNat:Nat):Int):=Hd (by omega)
    rw[w1,w2,w3,Int.tdiv_eq_ediv_of_nonneg (by omega),Hd (by omega)]
    have c1: ¬((n:Int)>(18446744073709551615-((Ht c.toNat:Nat):Int)) / 10):=by omega
    rw[if_neg (by simpa using c1),HY]
    by_cases c2:n * 10+Ht c.toNat≤m
    · have c3: ¬(((n * 10+Ht c.toNat:Nat):Int)>(m:Int)):=by omega
      rw[decide_eq_false c3]
      simp only[Bool.false_eq_true,if_false]
      exact ARm hm k9 l _ h.2 c2
    · have c3:(((n * 10+Ht c.toNat:Nat):Int)>(m:Int)):=by omega
      have:=TV l (n * 10+Ht c.toNat)
      rw[decide_eq_true c3,if_neg (by omega)];rfl
theorem AIv{m:Nat} (hm:m≤2^59) (l:List UInt8) (hb:l.length≤2^60):I1 N l (m:Int)=some (if l=[]then(0,3)else if l.all Ep=true then(if HY 0 l≤m then(((HY 0 l:Nat):Int),0)else(0,4))else(0,1)):=by
  unfold I1 Dj
  by_cases h:l=[]
  · subst h;rfl
  · rw[if_neg (by simpa using h),if_neg h,AL,AZ (by unfold AX;omega),ARo]
    by_cases h1:l.all Ep=true
    · rw[if_pos h1,if_pos h1,AL,AZ (by unfold AX;omega),show(0:Int)=((0:Nat):Int)from rfl,ARm hm _ l 0 h1 (by omega)]
      split<;>rfl
    · rw[if_neg h1,if_neg h1];rfl
section
variable{s sg W F FR P EX:List UInt8}
theorem NumP.len (h:NumP s sg W F FR P EX):s.length=sg.length+(W.length+(FR.length+EX.length))∧F.length≤FR.length∧P.length≤EX.length:=by
  refine⟨by rw[h.eq];simp,?_,?_⟩
  · rcases h.fr with⟨e1,e2⟩|e
    · rw[e2];simp
    · rw[e];simp
  · rcases h.ex with⟨e1,e2⟩|e|e
    · rw[e2];simp
    · rw[e];simp
    · rw[e];simp
end
end
end Go.VM
namespace Go.VM
section
variable{N:Nat}
theorem Qw (set:List UInt8) (hs:set.length≤1000) (k2:Unit→Option Int) (n:Int) (h:k2 ()=some n): ∀(l:List UInt8) (i:Nat),((i+l.length:Nat):Int)=n→DF N set k2 l (i:Int)=some ((i+(l.takeWhile fun c=>!set.contains c).length:Nat):Int)
  |[],i,hn=>by rw[DF,h,←hn];simp
  | c::l,i,hn=>by
    rw[DF,QN _ _ hs,Option.bind_some,List.takeWhile_cons]
    cases hc:set.contains c
    · simp only[List.length_cons]at hn
      rw[if_neg (by decide),show(i:Int)+1=((i+1:Nat):Int) by simp,Qw set hs k2 n h l (i+1) (by rw[←hn];congr 1;omega)]
      simp only[Bool.not_false,if_true,List.length_cons];congr 2;omega
    · simp
theorem IR (l set:List UInt8) (hs:set.length≤1000) (hb:l.length≤2^60):BR N l set=some (((l.takeWhile fun c=>!set.contains c).length:Nat):Int):=by
  unfold BR
  rw[AL,AZ (by unfold AX;omega),show(0:Int)=((0:Nat):Int)from rfl,Qw set hs _ _ rfl l 0 (by simp)]
  simp
section
variable{s sg W F FR P EX:List UInt8}
end
end
end Go.VM
