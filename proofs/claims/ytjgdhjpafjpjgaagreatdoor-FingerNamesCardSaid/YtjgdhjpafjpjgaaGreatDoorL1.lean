import Derived.Test.YtjgdhjpafjpjgaaGreatDoorVM2
import GoSem.Claim
import Derived.Test.YtjgdhjpafjpjgaaGreatDoorDefs
import Derived.KernelRfl
set_option linter.unusedVariables false
set_option linter.unusedSimpArgs false
namespace Go.VM
theorem BH{n:Int} (h: -9223372036854775808≤n∧n≤9223372036854775807):wr .i64 n=n:=by
  simp[wr,IntKind.wrap,IntKind.bits,IntKind.signed];omega
theorem IR{α:Type} (l:List α) (n:Nat):idx l (n:Int)=l[n]?:=by simp[idx]
theorem AIa{α:Type} (pre suf:List α) (x:α):idx (pre++x::suf) (pre.length:Int)=some x:=by simp[idx]
theorem ADH{α:Type} (pre:List α) (x:α):(pre.length:Int)+1=((pre++[x]).length:Int):=by simp
theorem CV{α:Type} (l:List α) (a b:Nat) (h1:a≤b) (h2:b≤l.length):sub l (a:Int) (b:Int)=some ((l.drop a).take (b-a)):=by
  have h1':(a:Int)≤b:=by omega
  have h2':(b:Int)≤l.length:=by omega
  simp[sub,h1',h2']
theorem AZ{α:Type}{c:Prop} [Decidable c]{x:Option α} (h:c):grd c x=x:=by simp[grd,h]
theorem BL{α:Type}{n:Nat}{x:Option α} (h:n≤4611686018427387904):grd (AV n) x=x:=AZ h
theorem AJ{α β:Type} (k:α→Option β) (body:(α→Option β)→Option β):AO k body=body k:=rfl
theorem wf_u8{n:Int} (h:(Lit.int .u8 n).wf=true):0≤n∧n≤255:=by
  simp only[Lit.wf,Bool.and_eq_true,decide_eq_true_eq]at h
  have e1:IntKind.u8.min=0:=by decide
  have e2:IntKind.u8.max=255:=by decide
  rw[e1,e2]at h;exact h
end Go.VM
namespace Go.VM
theorem IP (c:UInt8):AL c=(c.toNat:Int):=rfl
theorem Iy (c:UInt8):FX (AL c)=c:=by simp[FX,AL]
theorem toNat_ofNat{n:Nat} (h:n<256):(UInt8.ofNat n).toNat=n:=by simp;omega
theorem AJd{P:Nat→Prop} [∀n,Decidable (P n)] (h:(List.range 256).all (fun n=>decide (P n))=true) (c:UInt8):P c.toNat:=by
  have:=List.all_eq_true.1 h c.toNat (List.mem_range.2 c.toNat_lt)
  simpa using this
theorem Vm{n:Int} (h:0≤n∧n<256):wr .u8 n=n:=by
  simp[wr,IntKind.wrap,IntKind.bits,IntKind.signed];omega
theorem H8{n:Int} (h:0≤n∧n<18446744073709551616):wr .u64 n=n:=by
  simp[wr,IntKind.wrap,IntKind.bits,IntKind.signed];omega
theorem AG6{n:Nat}:wr .u8 (n:Int)=((n % 256:Nat):Int):=by
  simp[wr,IntKind.wrap,IntKind.bits,IntKind.signed]
theorem AHz:(List.range 256).all (fun n=>decide (
    LH .u8 (n:Int) 127=((n / 128 * 128:Nat):Int)∧LH .u8 (n:Int) 31=((n / 32 * 32:Nat):Int)∧LH .u8 (n:Int) 15=((n / 16 * 16:Nat):Int)∧LH .u8 (n:Int) 7=((n / 8 * 8:Nat):Int)∧
    PD .u8 (n:Int) 127=((n % 128:Nat):Int)∧PD .u8 (n:Int) 31=((n % 32:Nat):Int)∧PD .u8 (n:Int) 15=((n % 16:Nat):Int)∧PD .u8 (n:Int) 7=((n % 8:Nat):Int)∧
    PD .u8 (n:Int) 192=((n / 64 * 64:Nat):Int)∧PD .u8 (n:Int) 63=((n % 64:Nat):Int)))=true:=by decide+kernel
theorem AAF (c:UInt8):LH .u8 (AL c) 15=((c.toNat / 16 * 16:Nat):Int):=(AJd AHz c).2.2.1
end Go.VM
namespace Go.VM
section
variable{N:Nat}
end
end Go.VM
namespace Go.VM
def Ok{α:Type} (x:Option α) (P:α→Prop):Prop:= ∃a,x=some a∧P a
section
variable{α β:Type}{P:α→Prop}{Q:β→Prop}
theorem Ok.ret{a:α} (h:P a):Ok (some a) P:=⟨a,rfl,h⟩
theorem Ok.bind{x:Option β}{f:β→Option α} (h:Ok x Q) (k: ∀b,Q b→Ok (f b) P):Ok (Option.bind x f) P:=by
  obtain⟨b,rfl,hb⟩:=h;exact k b hb
theorem Ok.ite{c:Bool}{x y:Option α} (h1:c=true→Ok x P) (h2:c=false→Ok y P):Ok (if c=true then x else y) P:=by
  cases c
  · simpa using h2 rfl
  · simpa using h1 rfl
theorem Ok.grd{c:Prop} [Decidable c]{x:Option α} (hc:c) (h:Ok x P):Ok (grd c x) P:=by rw[AZ hc];exact h
theorem Ok.meet (J:β→Prop){k:β→Option α}{body:(β→Option α)→Option α} (hk: ∀b,J b→Ok (k b) P) (hb: ∀k':β→Option α,(∀b,J b→Ok (k' b) P)→Ok (body k') P):Ok (AO k body) P:=hb k hk
theorem Ok.letL{x:β}{f:β→Option α} (h:Ok (f x) P):Ok (letL x f) P:=h
theorem Ok.mono{x:Option α}{P':α→Prop} (h:Ok x P) (k: ∀a,P a→P' a):Ok x P':=by obtain⟨a,e,ha⟩:=h;exact⟨a,e,k a ha⟩
theorem Ok.eq{x:Option α}{a:α} (h:x=some a):Ok x (· =a):=⟨a,h,rfl⟩
theorem Ok.idx{l:List α}{i:Int} (h0:0≤i) (h1:i<l.length):Ok (idx l i) (fun x=>l[i.toNat]?=some x):=by
  have:i.toNat<l.length:=by omega
  exact⟨l[i.toNat],by simp[VM.idx,h0,List.getElem?_eq_getElem this],List.getElem?_eq_getElem this⟩
theorem Ok.sub{l:List α}{a b:Int} (h0:0≤a) (h1:a≤b) (h2:b≤l.length):Ok (sub l a b) (fun x=>x=(l.drop a.toNat).take (b.toNat-a.toNat)∧x.length=(b-a).toNat):=by
  refine⟨_,by simp[VM.sub,h0,h1,h2],rfl,?_⟩
  simp;omega
end
end Go.VM
namespace Go.VM
section
variable{N:Nat}
theorem JH{α:Type}{l t:List α}{x:α}{i j:Nat} (h:l.drop i=t) (hx:t[j]?=some x):idx l ((i+j:Nat):Int)=some x:=by
  rw[IR,←List.getElem?_drop,h,hx]
theorem IG{α:Type}{l t:List α}{i:Nat} (h:l.drop i=t) (hi:i≤l.length):l.length=i+t.length:=by
  have:=congrArg List.length h
  simp at this;omega
section
variable{l t:List UInt8}{i:Nat}{k13:Int→Option (Int×Int×Int)}
end
end
end Go.VM
namespace Go.VM
section
variable{N:Nat}
end
end Go.VM
namespace Go.VM
section
variable{N:Nat}
theorem Be{α:Type} [DecidableEq α]{f g:Nat→α} (h:(List.range 256).all (fun n=>decide (f n=g n))=true) (c:UInt8):f c.toNat=g c.toNat:=by
  have:=List.all_eq_true.1 h c.toNat (List.mem_range.2 c.toNat_lt)
  simpa using this
def Pq (n:Nat):Bool:=(decide (48≤n)&&decide (n≤57))||(decide (65≤n)&&decide (n≤70))||(decide (97≤n)&&decide (n≤102))
def Ke (c:UInt8):Bool:=Pq c.toNat
def IL (n:Nat):Nat:=if n≤57 then n-48 else if n≤70 then n-55 else n-87
theorem SQ (c:UInt8) (h:Ke c=true):IL c.toNat<16:=by
  simp only[Ke,Pq,Bool.or_eq_true,Bool.and_eq_true,decide_eq_true_eq]at h
  unfold IL;split<;>(try split)<;>omega
theorem AIJ (c:UInt8):I1 N (AL c)=some (Ke c):=
  Be (f:=fun n=>I1 N (n:Int)) (g:=fun n=>some (Pq n)) (by kernel_rfl) c
theorem AIH (c:UInt8):F7 N (AL c)=some (Ke c):=
  Be (f:=fun n=>F7 N (n:Int)) (g:=fun n=>some (Pq n)) (by kernel_rfl) c
theorem AQl (c:UInt8) (h:Ke c=true):JI N (AL c)=some ((IL c.toNat:Nat):Int):=by
  have:=Be (f:=fun n=>if Pq n=true then JI N (n:Int)else none) (g:=fun n=>if Pq n=true then some ((IL n:Nat):Int)else none) (by kernel_rfl) c
  simp only[show Pq c.toNat=true from h,if_true]at this
  exact this
end
end Go.VM
namespace Go.VM
section
variable{N:Nat}
end
end Go.VM
namespace Go.VM
section
variable{N:Nat}
section
variable{l:List UInt8}
end
end
end Go.VM
namespace Go.VM
section
variable{N:Nat}
theorem Ja{α:Type} (p:α→Bool) (t:List α):t.take (t.takeWhile p).length=t.takeWhile p:=
  (List.prefix_iff_eq_take.1 (List.takeWhile_prefix p)).symm
theorem MG{α:Type} (p:α→Bool) (t:List α):(t.takeWhile p).length≤t.length:=(List.takeWhile_sublist p).length_le
def FE (c:UInt8):Bool:=decide (48≤c.toNat)&&decide (c.toNat≤57)
def ZU (n:Nat):Bool:=(decide (65≤n)&&decide (n≤90))||(decide (97≤n)&&decide (n≤122))
def JP (c:UInt8):Bool:=ZU c.toNat
theorem Pw (c:UInt8):Bw N (AL c)=some (FE c):=
  Be (f:=fun n=>Bw N (n:Int)) (g:=fun n=>some (decide (48≤n)&&decide (n≤57))) (by kernel_rfl) c
theorem Od (c:UInt8):CY N (AL c)=some (FE c):=
  Be (f:=fun n=>CY N (n:Int)) (g:=fun n=>some (decide (48≤n)&&decide (n≤57))) (by kernel_rfl) c
theorem RB (c:UInt8):En N (AL c)=some (JP c):=
  Be (f:=fun n=>En N (n:Int)) (g:=fun n=>some (ZU n)) (by kernel_rfl) c
theorem OT (c:UInt8):ES N (AL c)=some (JP c):=
  Be (f:=fun n=>ES N (n:Int)) (g:=fun n=>some (ZU n)) (by kernel_rfl) c
theorem ADh (c:UInt8) (k2:Unit→Option Bool) (h:k2 ()=some false): ∀l:List UInt8,Ew N (AL c) k2 l=some (l.contains c)
  |[]=>by rw[Ew];simpa using h
  | x::l=>by
    rw[Ew,ADh c k2 h l,List.contains_cons]
    by_cases e:x=c
    · subst e;simp
    · have e1: ¬c=x:=fun h=>e h.symm
      have:(AL x==AL c)=false:=by
        have: ¬x.toNat=c.toNat:=fun h=>e (UInt8.toNat_inj.1 h)
        simp only[AL,beq_eq_false_iff_ne,ne_eq];omega
      simp[this,e1]
theorem RO (c:UInt8) (l:List UInt8) (h:l.length≤1000):GN N (AL c) l=some (l.contains c):=by
  unfold GN
  rw[AJ,BL (by omega)]
  exact ADh c _ rfl l
theorem Jd (l:List UInt8) (c:UInt8):strings_IndexByte N l (AL c)=some (Go.Lib.indexByte l c):=by
  unfold strings_IndexByte A8;rw[Iy];rfl
section
variable{l:List UInt8}
variable{t:List UInt8}{i:Nat}
end
end
end Go.VM
namespace Go.VM
section
variable{N:Nat}
theorem KX{α β:Type}{K:α→Option β}{body:(α→Option β)→Option β}{a:α} (h: ∀k:α→Option β,body k=k a):AO K body=K a:=h K
end
end Go.VM
namespace Go.VM
section
variable{N:Nat}
section
variable{l t:List UInt8}{i p:Nat}
end
end
end Go.VM
namespace Go.VM
section
variable{N:Nat}
section
variable{l:List UInt8}
end
theorem Gw: ∀l:List UInt8,List.map FX (List.map AL l)=l
  |[]=>rfl
  |c::l=>by rw[List.map_cons,List.map_cons,Iy,Gw l]
end
end Go.VM
namespace Go.VM
section
variable{N:Nat}
def C8 (c:UInt8):Bool:=JP c||(FE c||([45,46,95,126]:List UInt8).contains c)
theorem Qd (c:UInt8):CK N (AL c)=some (C8 c):=by
  have:=Be (f:=fun n=>CK N (n:Int)) (g:=fun n=>some (C8 (UInt8.ofNat n))) (by kernel_rfl) c
  simp only[UInt8.ofNat_toNat]at this
  exact this
theorem QC (c:UInt8):CO N (AL c)=some (C8 c):=by
  have:=Be (f:=fun n=>CO N (n:Int)) (g:=fun n=>some (C8 (UInt8.ofNat n))) (by kernel_rfl) c
  simp only[UInt8.ofNat_toNat]at this
  exact this
theorem Vv (c:UInt8) (h:Ke c=true):Gd N (AL c)=some ((IL c.toNat:Nat):Int):=by
  have:=Be (f:=fun n=>if Pq n=true then Gd N (n:Int)else none) (g:=fun n=>if Pq n=true then some ((IL n:Nat):Int)else none) (by kernel_rfl) c
  simp only[show Pq c.toNat=true from h,if_true]at this
  exact this
theorem VK (c:UInt8) (h:Ke c=true):Iw N (AL c)=some ((IL c.toNat:Nat):Int):=by
  have:=Be (f:=fun n=>if Pq n=true then Iw N (n:Int)else none) (g:=fun n=>if Pq n=true then some ((IL n:Nat):Int)else none) (by kernel_rfl) c
  simp only[show Pq c.toNat=true from h,if_true]at this
  exact this
def hx (a b:UInt8):UInt8:=UInt8.ofNat (16 * IL a.toNat+IL b.toNat)
theorem AVW{x y:Nat} (hx:x<16) (hy:y<16):Rb .u8 (AOL .u8 (x:Int) 4) (y:Int)=AL (UInt8.ofNat (16 * x+y)):=by
  have:=Be (f:=fun n=>Rb .u8 (AOL .u8 ((n / 16:Nat):Int) 4) ((n % 16:Nat):Int)) (g:=fun n=>AL (UInt8.ofNat n)) (by kernel_rfl) (UInt8.ofNat (16 * x+y))
  have e:(UInt8.ofNat (16 * x+y)).toNat=16 * x+y:=by rw[UInt8.toNat_ofNat'];omega
  simp only[e]at this
  rw[show(16 * x+y) / 16=x by omega,show(16 * x+y) % 16=y by omega]at this
  exact this
theorem AVH{x y:Nat} (hx:x<16) (hy:y<16):wr .u8 ((wr .u8 (16 * (x:Int)))+(y:Int))=AL (UInt8.ofNat (16 * x+y)):=by
  have e:(UInt8.ofNat (16 * x+y)).toNat=16 * x+y:=by rw[UInt8.toNat_ofNat'];omega
  rw[Vm (n:=16 * (x:Int)) (by omega),Vm (by omega),IP,e];omega
def IW:List UInt8→Option UInt8
  |a::b::_=>if(Ke a&&Ke b)=true then some (hx a b)else none
  |_=>none
def SF:Option UInt8→Int×Bool
  |some x=>(AL x,true)
  |none=>(0,false)
section
variable{l t:List UInt8}{i:Nat}{c:UInt8}
theorem AIW (h:l.drop i=c::t) (hb:l.length≤2^40):FI N l (i:Int)=some (SF (IW t)):=by
  have hi:i≤l.length:=by
    have:=congrArg List.length h
    simp only[List.length_drop,List.length_cons]at this;omega
  have hl:=IG h hi
  simp only[List.length_cons]at hl
  unfold FI
  dsimp only[AJ]
  rw[BH (by omega)]
  match t,h,hl with
  |[],h,hl=>simp only[List.length_nil]at hl;rw[if_pos (by rw[decide_eq_true_eq];omega),if_pos rfl];rfl
  |[a],h,hl=>simp only[List.length_cons,List.length_nil]at hl;rw[if_pos (by rw[decide_eq_true_eq];omega),if_pos rfl];rfl
  | a::b::r,h,hl=>
    simp only[List.length_cons]at hl
    rw[if_neg (by simp;omega),show wr .i64 ((i:Int)+1)=((i+1:Nat):Int) by rw[BH (by omega)];omega,show wr .i64 ((i:Int)+2)=((i+2:Nat):Int) by rw[BH (by omega)];omega,JH (j:=1) h rfl,JH (j:=2) h rfl,Option.bind_some,Option.bind_some,AIJ,Option.bind_some,Option.bind_some,AIJ,Option.bind_some]
    unfold IW
    cases ha:Ke a
    · simp[SF,ha]
    · cases hb2:Ke b
      · simp[SF,ha,hb2]
      · simp only[Bool.not_true,Bool.and_self,if_true,Bool.false_eq_true,if_false]
        rw[Vv a ha,Option.bind_some,Option.bind_some,Vv b hb2,Option.bind_some,AVW (SQ a ha) (SQ b hb2)];simp[SF,ha,hb2,hx]
theorem AID (h:l.drop i=37::t) (hb:l.length≤2^40):He N l (i:Int)=some (SF (IW t)):=by
  have hi:i≤l.length:=by
    have:=congrArg List.length h
    simp only[List.length_drop,List.length_cons]at this;omega
  have hl:=IG h hi
  simp only[List.length_cons]at hl
  unfold He
  dsimp only[AJ]
  rw[show wr .i64 ((i:Int)+1)=((i+1:Nat):Int) by rw[BH (by omega)];omega,show wr .i64 ((i:Int)+2)=((i+2:Nat):Int) by rw[BH (by omega)];omega]
  match t,h,hl with
  |[],h,hl=>simp only[List.length_nil]at hl;rw[if_pos (by rw[decide_eq_true_eq];omega),if_pos rfl];rfl
  |[a],h,hl=>simp only[List.length_cons,List.length_nil]at hl;rw[if_pos (by rw[decide_eq_true_eq];omega),if_pos rfl];rfl
  | a::b::r,h,hl=>
    simp only[List.length_cons]at hl
    rw[if_neg (by simp;omega),show idx l (i:Int)=some 37 from JH (j:=0) h rfl,Option.bind_some,if_neg (by decide),JH (j:=1) h rfl,JH (j:=2) h rfl,Option.bind_some,Option.bind_some,AIH,Option.bind_some,Option.bind_some,AIH,Option.bind_some]
    unfold IW
    cases ha:Ke a
    · simp[SF,ha]
    · cases hb2:Ke b
      · simp[SF,ha,hb2]
      · simp only[Bool.not_true,Bool.and_self,if_true,Bool.false_eq_true,if_false]
        rw[VK a ha,Option.bind_some,Option.bind_some,VK b hb2,Option.bind_some,AVH (SQ a ha) (SQ b hb2)];simp[SF,ha,hb2,hx]
def OE:Nat→List UInt8→List UInt8→List UInt8×Int
  |0,_,_=>([],2)
  |_+1,[],out=>(out,0)
  |k+1,c::t,out=>if c=37 then(match IW t with|some x=>OE k (t.drop 2) (out++[x])|none=>([],2))else OE k t (out++[c])
theorem Jb{n:Nat} (h:n≤1000000000):Cg n 1:=by unfold Cg;omega
theorem OY{x:UInt8} (h:IW t=some x):2≤t.length:=by
  match t,h with
  |[],h=>cases h
  |[_],h=>cases h
  |_::_::_,_=>simp
theorem Lv (c:UInt8):(AL c==37)=decide (c=37):=by
  have:=Be (f:=fun n=>((n:Int)==37)) (g:=fun n=>decide (UInt8.ofNat n=37)) (by kernel_rfl) c
  simp only[UInt8.ofNat_toNat]at this
  exact this
theorem Q8 (hb:l.length≤100000): ∀(k:Nat) (t:List UInt8) (i:Nat) (out:List UInt8),l.drop i=t→i≤l.length→t.length<k→out.length≤i→
    C9 N l (fun j=>some (List.map FX j,0)) k (List.map AL out) (i:Int)=some (OE k t out)
  |0,t,i,out,_,_,h,_=>by omega
  | k+1,[],i,out,h,hi,hk,ho=>by
    have hl:=IG h hi
    rw[C9,if_neg (by simp at hl⊢;omega),Gw];rfl
  | k+1,c::t,i,out,h,hi,hk,ho=>by
    have hl:=IG h hi
    simp only[List.length_cons]at hl hk
    rw[C9,if_pos (by simp;omega),show idx l (i:Int)=some c from JH (j:=0) h rfl,Option.bind_some,AJ,Lv]
    have hd:l.drop (i+1)=t:=by rw[←List.drop_drop,h];rfl
    by_cases hc:c=37
    · rw[decide_eq_true hc,if_pos rfl,AIW h (by omega),Option.bind_some,OE,if_pos hc]
      cases he:IW t with
      |none=>rfl
      | some x=>
        have:=OY he
        simp only[SF,if_true]
        rw[AZ (Jb (by simp;omega)),show wr .i64 (wr .i64 ((i:Int)+2)+1)=((i+3:Nat):Int) by rw[BH (n:=(i:Int)+2) (by omega),BH (by omega)];omega,show List.map AL out++[AL x]=List.map AL (out++[x]) by simp]
        exact Q8 hb k _ (i+3) (out++[x]) (by rw[show i+3=i+1+2 by omega,←List.drop_drop,hd]) (by omega) (by rw[List.length_drop];omega) (by simp;omega)
    · rw[decide_eq_false hc,if_neg (by decide),OE,if_neg hc]
      dsimp only
      rw[AZ (Jb (by simp;omega)),show wr .i64 ((i:Int)+1)=((i+1:Nat):Int) by rw[BH (by omega)];omega,show List.map AL out++[AL c]=List.map AL (out++[c]) by simp]
      exact Q8 hb k t (i+1) (out++[c]) hd (by omega) (by omega) (by simp;omega)
theorem Qq (hb:l.length≤100000): ∀(k:Nat) (t:List UInt8) (i:Nat) (out:List UInt8),l.drop i=t→i≤l.length→t.length<k→out.length≤i→
    EI N l (fun j=>some (List.map FX j,0)) k (List.map AL out) (i:Int)=some (OE k t out)
  |0,t,i,out,_,_,h,_=>by omega
  | k+1,[],i,out,h,hi,hk,ho=>by
    have hl:=IG h hi
    rw[EI,if_neg (by simp at hl⊢;omega),Gw];rfl
  | k+1,c::t,i,out,h,hi,hk,ho=>by
    have hl:=IG h hi
    simp only[List.length_cons]at hl hk
    rw[EI,if_pos (by simp;omega),show idx l (i:Int)=some c from JH (j:=0) h rfl,Option.bind_some,AJ,Lv]
    have hd:l.drop (i+1)=t:=by rw[←List.drop_drop,h];rfl
    by_cases hc:c=37
    · subst hc
      rw[decide_eq_true rfl,if_pos rfl,AID h (by omega),Option.bind_some,OE,if_pos rfl]
      cases he:IW t with
      |none=>rfl
      | some x=>
        have:=OY he
        simp only[SF,if_true]
        rw[AZ (Jb (by simp;omega)),show wr .i64 (wr .i64 ((i:Int)+2)+1)=((i+3:Nat):Int) by rw[BH (n:=(i:Int)+2) (by omega),BH (by omega)];omega,show List.map AL out++[AL x]=List.map AL (out++[x]) by simp]
        exact Qq hb k _ (i+3) (out++[x]) (by rw[show i+3=i+1+2 by omega,←List.drop_drop,hd]) (by omega) (by rw[List.length_drop];omega) (by simp;omega)
    · rw[decide_eq_false hc,if_neg (by decide),OE,if_neg hc]
      dsimp only
      rw[AZ (Jb (by simp;omega)),show wr .i64 ((i:Int)+1)=((i+1:Nat):Int) by rw[BH (by omega)];omega,show List.map AL out++[AL c]=List.map AL (out++[c]) by simp]
      exact Qq hb k t (i+1) (out++[c]) hd (by omega) (by omega) (by simp;omega)
end
def Dw (N:Nat) (s:List UInt8):List UInt8×Int:=if s.length>16384 then([],5)else OE N s []
theorem Kw (s:List UInt8) (hN:20000≤N):EA N s=some (Dw N s):=by
  unfold EA Dw
  by_cases h:s.length>16384
  · rw[if_pos (by simp;omega),if_pos h]
  · rw[if_neg (by simp;omega),if_neg h,AJ]
    exact Q8 (l:=s) (by omega) N s 0 [] rfl (by omega) (by omega) (by simp)
theorem Jg (s:List UInt8) (hN:20000≤N):EW N s=some (Dw N s):=by
  unfold EW Dw
  by_cases h:s.length>16384
  · rw[if_pos (by simp;omega),if_pos h]
  · rw[if_neg (by simp;omega),if_neg h,AJ]
    exact Qq (l:=s) (by omega) N s 0 [] rfl (by omega) (by omega) (by simp)
end
end Go.VM
namespace Go.VM
section
variable{N:Nat}
def NN (n:Nat):UInt8:=([48,49,50,51,52,53,54,55,56,57,65,66,67,68,69,70]:List UInt8).getD n 0
def IC (c:UInt8):List UInt8:=[37,NN (c.toNat / 16),NN (c.toNat % 16)]
theorem OA (c:UInt8):FN N (AL c)=some (IC c):=by
  have:=Be (f:=fun n=>FN N (n:Int)) (g:=fun n=>some ([37,NN (n / 16),NN (n % 16)]:List UInt8)) (by kernel_rfl) c
  exact this
def Np (also:List UInt8):Nat→List UInt8→List UInt8→List UInt8×Int
  |0,_,_=>([],2)
  |_+1,[],out=>(out,0)
  | k+1,c::t,out=>
    if c=37 then(match IW t with|some x=>Np also k (t.drop 2) (out++(if C8 x=true then [x]else IC x))|none=>([],2))
    else if(C8 c||also.contains c)=true then Np also k t (out++[c])else([],1)
section
variable{l also:List UInt8}
theorem OX (hb:l.length≤100000) (ha:also.length≤1000): ∀(k:Nat) (t:List UInt8) (i:Nat) (out:List UInt8),l.drop i=t→i≤l.length→t.length<k→out.length≤3 * i→
    CP N l also (fun j=>some (List.map FX j,0)) k (List.map AL out) (i:Int)=some (Np also k t out)
  |0,t,i,out,_,_,h,_=>by omega
  | k+1,[],i,out,h,hi,hk,ho=>by
    have hl:=IG h hi
    rw[CP,if_neg (by simp at hl⊢;omega),Gw];rfl
  | k+1,c::t,i,out,h,hi,hk,ho=>by
    have hl:=IG h hi
    simp only[List.length_cons]at hl hk
    rw[CP,if_pos (by simp;omega),AJ,show idx l (i:Int)=some c from JH (j:=0) h rfl,Option.bind_some,bne,Lv,Np]
    have hd:l.drop (i+1)=t:=by rw[←List.drop_drop,h];rfl
    by_cases hc:c=37
    · subst hc
      rw[decide_eq_true rfl,if_neg (by decide),if_pos rfl,AID h (by omega),Option.bind_some]
      cases he:IW t with
      |none=>rfl
      | some x=>
        have:=OY he
        simp only[SF,if_true]
        rw[AJ,QC,Option.bind_some]
        have e3:wr .i64 (wr .i64 ((i:Int)+2)+1)=((i+3:Nat):Int):=by rw[BH (n:=(i:Int)+2) (by omega),BH (by omega)];omega
        cases hu:C8 x
        · rw[if_neg (by decide),OA,Option.bind_some,AZ (Jb (by simp[IC];omega))]
          dsimp only
          rw[e3,show List.map AL out++List.map AL (IC x)=List.map AL (out++IC x) by simp]
          exact OX hb ha k _ (i+3) (out++IC x) (by rw[show i+3=i+1+2 by omega,←List.drop_drop,hd]) (by omega) (by rw[List.length_drop];omega) (by simp[IC];omega)
        · rw[if_pos rfl,AZ (Jb (by simp;omega))]
          dsimp only
          rw[e3,show List.map AL out++[AL x]=List.map AL (out++[x]) by simp]
          exact OX hb ha k _ (i+3) (out++[x]) (by rw[show i+3=i+1+2 by omega,←List.drop_drop,hd]) (by omega) (by rw[List.length_drop];omega) (by simp;omega)
    · rw[decide_eq_false hc,if_pos (by decide),if_neg hc,AJ,QC,Option.bind_some]
      have step:grd (Cg ((List.map AL out).length+1) 1) ((fun j6:List Int×Int=>CP N l also (fun j=>some (List.map FX j,0)) k j6.1 (wr .i64 (j6.2+1))) (List.map AL out++[AL c],(i:Int)))=some (Np also k t (out++[c])):=by
        rw[AZ (Jb (by simp;omega))]
        dsimp only
        rw[show wr .i64 ((i:Int)+1)=((i+1:Nat):Int) by rw[BH (by omega)];omega,show List.map AL out++[AL c]=List.map AL (out++[c]) by simp]
        exact OX hb ha k t (i+1) (out++[c]) hd (by omega) (by omega) (by simp;omega)
      cases hu:C8 c
      · rw[if_neg (by decide),RO c also ha,Option.bind_some,Bool.false_or]
        cases hk2:also.contains c
        · rfl
        · simpa using step
      · rw[if_pos rfl]
        simpa using step
end
def CR (N:Nat) (s also:List UInt8):List UInt8×Int:=if s.length>16384 then([],5)else Np also N s []
theorem Jw (s also:List UInt8) (hN:20000≤N) (ha:also.length≤1000):EJ N s also=some (CR N s also):=by
  unfold EJ CR
  by_cases h:s.length>16384
  · rw[if_pos (by simp;omega),if_pos h]
  · rw[if_neg (by simp;omega),if_neg h,AJ]
    exact OX (l:=s) (by omega) ha N s 0 [] rfl (by omega) (by omega) (by simp)
def Hy (keep:List UInt8) (c:UInt8):List UInt8:=if(C8 c||(!decide (c=37)&&keep.contains c))=true then [c]else IC c
theorem UX (keep:List UInt8) (c:UInt8):(Hy keep c).length≤3:=by
  unfold Hy;split<;>simp[IC]
theorem VH{keep:List UInt8} (ha:keep.length≤1000) (l:List UInt8) (hb:l.length≤1000000): ∀(t pre out:List UInt8),l=pre++t→out.length≤3 * pre.length→
    Bc N l keep (fun j=>some j) t (pre.length:Int) out=some (out++t.flatMap (Hy keep))
  |[],pre,out,h,ho=>by rw[Bc];simp
  | c::t,pre,out,h,ho=>by
    have hl:=congrArg List.length h
    simp only[List.length_append,List.length_cons]at hl
    have hlen:=UX keep c
    have nxt: ∀x:List UInt8,x=Hy keep c→Bc N l keep (fun j=>some j) t ((pre.length:Int)+1) (out++x)=some (out++(c::t).flatMap (Hy keep)):=fun x hx=>by
      have:=VH ha l hb t (pre++[c]) (out++x) (by rw[h];simp) (by rw[hx];simp only[List.length_append,List.length_cons,List.length_nil];omega)
      rw[List.flatMap_cons,←List.append_assoc,←hx,←this]
      congr 1;simp
    have hsub:sub l (pre.length:Int) ((pre.length:Int)+1)=some [c]:=by
      rw[show(pre.length:Int)+1=((pre.length+1:Nat):Int) by omega,CV l _ _ (by omega) (by omega),h,List.drop_left]
      simp
    rw[Bc,AJ,AJ,QC,Option.bind_some]
    have yes:(C8 c||(!decide (c=37)&&keep.contains c))=true→Option.bind (sub l (pre.length:Int) ((pre.length:Int)+1)) (fun x18=>grd (AV (out.length+x18.length)) (Bc N l keep (fun j=>some j) t ((pre.length:Int)+1) (out++x18)))=some (out++(c::t).flatMap (Hy keep)):=fun hy=>by
      rw[hsub,Option.bind_some,BL (by simp;omega)]
      exact nxt [c] (by unfold Hy;rw[if_pos hy])
    have no:(C8 c||(!decide (c=37)&&keep.contains c))=false→Option.bind (FN N (AL c)) (fun y19=>grd (AV (out.length+y19.length)) (Bc N l keep (fun j=>some j) t ((pre.length:Int)+1) (out++y19)))=some (out++(c::t).flatMap (Hy keep)):=fun hy=>by
      rw[OA,Option.bind_some,BL (by simp[IC];omega)]
      exact nxt (IC c) (by unfold Hy;rw[hy,if_neg (by decide)])
    cases hu:C8 c
    · rw[if_neg (by decide),bne,Lv]
      rw[hu,Bool.false_or]at yes no
      by_cases hc:c=37
      · rw[decide_eq_true hc]at yes no⊢
        simpa using no (by simp)
      · rw[decide_eq_false hc]at yes no⊢
        rw[if_pos (by decide),RO c keep ha,Option.bind_some]
        cases hk:keep.contains c
        · rw[hk]at no;simpa using no rfl
        · rw[hk]at yes;simpa using yes rfl
    · rw[if_pos rfl]
      rw[hu]at yes
      simpa using yes rfl
theorem TU (s keep:List UInt8) (ha:keep.length≤1000) (hb:s.length≤1000000):Hq N s keep=some (s.flatMap (Hy keep)):=by
  unfold Hq
  rw[AJ,BL (by omega)]
  simpa using VH (N:=N) ha s hb s [] [] rfl (by simp)
end
end Go.VM
namespace Go.VM
section
variable{N:Nat}
theorem G9 (c:UInt8): ∀l:List UInt8,decide (Go.Lib.indexByte l c≥0)=l.contains c
  |[]=>rfl
  | b::l=>by
    have ih:=G9 c l
    have hge:=Go.Lib.indexByte_ge l c
    unfold Go.Lib.indexByte
    rw[List.contains_cons]
    by_cases h:b=c
    · subst h;simp
    · rw[if_neg (by simpa using h),show(c==b)=false by simpa using fun e=>h e.symm,Bool.false_or,←ih]
      by_cases h1:Go.Lib.indexByte l c= -1
      · rw[h1];rfl
      · rw[if_neg (by simpa using h1)]
        congr 1
        simp only[eq_iff_iff]
        constructor<;>intro<;>omega
theorem TV (out:List UInt8) (c:UInt8) (ho:out.length≤900000000):EG N (List.map AL out) (AL c)=some (List.map AL (out++IC c)):=by
  have h1:=Be (f:=fun n=>idx ([48,49,50,51,52,53,54,55,56,57,65,66,67,68,69,70]:List UInt8) (AQ9 .u8 (n:Int) 4)) (g:=fun n=>some (NN (n / 16))) (by kernel_rfl) c
  have h2:=Be (f:=fun n=>idx ([48,49,50,51,52,53,54,55,56,57,65,66,67,68,69,70]:List UInt8) (PD .u8 (n:Int) 15)) (g:=fun n=>some (NN (n % 16))) (by kernel_rfl) c
  unfold EG
  rw[show AL c=(c.toNat:Int)from rfl,h1,Option.bind_some,h2,Option.bind_some,AZ (Jb (by simp;omega))]
  simp[IC,AL]
theorem VX{keep:List UInt8} (k2:List Int→Option (List UInt8)): ∀(t out:List UInt8),out.length+3 * t.length≤900000000→
    Bd N keep k2 t (List.map AL out)=k2 (List.map AL (out++t.flatMap (Hy keep)))
  |[],out,ho=>by rw[Bd];simp
  | c::t,out,ho=>by
    simp only[List.length_cons]at ho
    have hlen:=UX keep c
    have nxt: ∀x:List UInt8,x=Hy keep c→Bd N keep k2 t (List.map AL (out++x))=k2 (List.map AL (out++(c::t).flatMap (Hy keep))):=fun x hx=>by
      rw[VX k2 t (out++x) (by rw[hx,List.length_append];omega),List.flatMap_cons,←List.append_assoc,←hx]
    have e1:List.map AL out++[AL c]=List.map AL (out++[c]):=by simp
    rw[Bd]
    dsimp only[AJ]
    rw[Qd,Option.bind_some,TV out c (by omega),Option.bind_some,e1,AZ (Jb (by simp;omega)),bne,Lv,Jd,Option.bind_some,G9]
    have hE:Hy keep c=if(C8 c||(!decide (c=37)&&keep.contains c))=true then [c]else IC c:=rfl
    cases hu:C8 c
    · by_cases hc:c=37
      · simp only[decide_eq_true hc,Bool.not_true,if_true,Bool.false_eq_true,if_false]
        exact nxt (IC c) (by rw[hE,hu,decide_eq_true hc];rfl)
      · cases hk:keep.contains c
        · simp only[decide_eq_false hc,Bool.not_false,if_true,Bool.false_eq_true,if_false]
          exact nxt (IC c) (by rw[hE,hu,decide_eq_false hc,hk];rfl)
        · simp only[decide_eq_false hc,Bool.not_false,if_true,Bool.false_eq_true,if_false]
          exact nxt [c] (by rw[hE,hu,decide_eq_false hc,hk];rfl)
    · simp only[if_true]
      exact nxt [c] (by rw[hE,hu];rfl)
theorem PW (s keep:List UInt8) (hb:s.length≤1000000):EY N s keep=some (s.flatMap (Hy keep)):=by
  unfold EY
  rw[AJ,BL (by omega)]
  have:=VX (N:=N) (keep:=keep) (fun j1=>some (List.map FX j1)) s [] (by simp;omega)
  rw[Gw]at this
  exact this
section
variable{l also:List UInt8}
theorem Ob (hb:l.length≤100000): ∀(k:Nat) (t:List UInt8) (i:Nat) (out:List UInt8),l.drop i=t→i≤l.length→t.length<k→out.length≤i→
    Bg N l also (fun j=>some (List.map FX j,0)) k (i:Int) (List.map AL out)=some (Np also k t out)
  |0,t,i,out,_,_,h,_=>by omega
  | k+1,[],i,out,h,hi,hk,ho=>by
    have hl:=IG h hi
    rw[Bg,if_neg (by simp at hl⊢;omega),Gw];rfl
  | k+1,c::t,i,out,h,hi,hk,ho=>by
    have hl:=IG h hi
    simp only[List.length_cons]at hl hk
    rw[Bg,if_pos (by simp;omega)]
    dsimp only[AJ]
    rw[show idx l (i:Int)=some c from JH (j:=0) h rfl,Option.bind_some,Lv,Np]
    have hd:l.drop (i+1)=t:=by rw[←List.drop_drop,h];rfl
    by_cases hc:c=37
    · rw [decide_eq_true hc,if_pos rfl,if_pos hc,AIW h (by omega),Option.bind_some]
      cases he:IW t with
      |none=>rfl
      | some x=>
        have:=OY he
        simp only[SF,if_true]
        rw[Qd,Option.bind_some]
        have e3:wr .i64 (wr .i64 ((i:Int)+2)+1)=((i+3:Nat):Int):=by rw[BH (n:=(i:Int)+2) (by omega),BH (by omega)];omega
        cases hu:C8 x
        · rw[if_neg (by decide),TV out x (by omega),Option.bind_some,e3]
          exact Ob hb k _ (i+3) (out++IC x) (by rw[show i+3=i+1+2 by omega,←List.drop_drop,hd]) (by omega) (by rw[List.length_drop];omega) (by simp[IC];omega)
        · rw[if_pos rfl,AZ (Jb (by simp;omega)),e3,show List.map AL out++[AL x]=List.map AL (out++[x]) by simp]
          exact Ob hb k _ (i+3) (out++[x]) (by rw[show i+3=i+1+2 by omega,←List.drop_drop,hd]) (by omega) (by rw[List.length_drop];omega) (by simp;omega)
    · rw[decide_eq_false hc,if_neg (by decide),if_neg hc,Qd,Option.bind_some,Jd,Option.bind_some,G9]
      have step:grd (Cg ((List.map AL out).length+1) 1) (Bg N l also (fun j=>some (List.map FX j,0)) k (wr .i64 ((i:Int)+1)) (List.map AL out++[AL c]))=some (Np also k t (out++[c])):=by
        rw[AZ (Jb (by simp;omega)),show wr .i64 ((i:Int)+1)=((i+1:Nat):Int) by rw[BH (by omega)];omega,show List.map AL out++[AL c]=List.map AL (out++[c]) by simp]
        exact Ob hb k t (i+1) (out++[c]) hd (by omega) (by omega) (by simp;omega)
      cases hu:C8 c
      · rw[if_neg (by decide),Bool.false_or]
        cases hk2:also.contains c
        · rfl
        · simpa using step
      · rw[if_pos rfl]
        simpa using step
end
theorem IE (s also:List UInt8) (hN:20000≤N):Ce N s also=some (CR N s also):=by
  unfold Ce CR
  by_cases h:s.length>16384
  · rw[if_pos (by simp;omega),if_pos h]
  · rw[if_neg (by simp;omega),if_neg h,AJ]
    exact Ob (l:=s) (by omega) N s 0 [] rfl (by omega) (by omega) (by simp)
end
end Go.VM
namespace Go.VM
section
variable{N:Nat}
theorem JC: ∀(l:List UInt8) (c:UInt8),Go.Lib.indexByte l c=if l.contains c=true then(((l.takeWhile (· !=c)).length:Nat):Int)else-1
  |[],c=>rfl
  | x::l,c=>by
    have ih:=JC l c
    rw[Go.Lib.indexByte,List.contains_cons]
    by_cases e:x=c
    · subst e;simp
    · have e1:(c==x)=false:=by simpa using fun h:c=x=>e h.symm
      have e2:(x==c)=false:=by simpa using e
      have e3:(x !=c)=true:=by simpa using e
      rw[e1,e2,Bool.false_or,List.takeWhile_cons,e3]
      simp only[Bool.false_eq_true,if_false,if_true,List.length_cons]
      by_cases k:l.contains c=true
      · rw[if_pos k]at ih
        rw[if_pos k,ih]
        have:(((((l.takeWhile (· !=c)).length:Nat):Int))== -1)=false:=by
          simp only[beq_eq_false_iff_ne,ne_eq];omega
        rw[this];simp
      · rw[if_neg k]at ih
        rw[if_neg k,ih];rfl
theorem Mm{α:Type} (p:α→Bool) (l:List α):l.drop (l.takeWhile p).length=l.dropWhile p:=by
  have:=List.takeWhile_append_dropWhile (p:=p) (l:=l)
  conv=>lhs;rw[←this]
  rw[List.drop_append,List.drop_of_length_le (by rw[this];exact Nat.le_refl _),this]
  simp
def Aa (c:UInt8) (l:List UInt8):List UInt8×List UInt8×Bool:=if l.contains c=true then(l.takeWhile (· !=c),(l.dropWhile (· !=c)).drop 1,true)else(l,[],false)
theorem JG{c:UInt8}: ∀ {l:List UInt8},l.contains c=true→(l.takeWhile (· !=c)).length<l.length
  |[],h=>by cases h
  | x::l,h=>by
    rw[List.takeWhile_cons]
    by_cases e:x=c
    · subst e;simp
    · have e3:(x !=c)=true:=by simpa using e
      rw[List.contains_cons]at h
      have e1:(c==x)=false:=by simpa using fun h:c=x=>e h.symm
      rw[e1,Bool.false_or]at h
      rw[e3]
      have:=JG h
      simp only[if_true,List.length_cons];omega
theorem Ms (c:UInt8) (l:List UInt8) (hb:l.length≤2^60):strings_Cut N l [c]=some (Aa c l):=by
  unfold strings_Cut EU Bt Aa
  have hk: ∀k:Bool→Option Int,(if((([c]:List UInt8).length:Int)==0)=true then k true else k ([c]==l))=k ([c]==l):=fun k=>rfl
  have hI:(AO (fun j1:Bool=>if j1=true then some (0:Int)else if((([c]:List UInt8).length:Int)==1)=true then Option.bind (idx [c] 0) fun x5=>Option.bind (A8 N l (AL x5)) fun y6=>some y6 else if decide ((([c]:List UInt8).length:Int)≥(l.length:Int))=true then some (-1)else none) fun k2=>if((([c]:List UInt8).length:Int)==0)=true then k2 true else k2 ([c]==l))=some (Go.Lib.indexByte l c):=by
    refine(KX (a:=[c]==l) fun k=>rfl).trans ?_
    by_cases h:([c]==l)=true
    · have:l=[c]:=by have:=beq_iff_eq.1 h;exact this.symm
      subst this
      simp[Go.Lib.indexByte]
    · rw[if_neg h,if_pos (by rfl),show idx [c] 0=some c from rfl,Option.bind_some]
      unfold A8
      rw[Iy];rfl
  rw[hI,Option.bind_some,JC]
  by_cases h:l.contains c=true
  · have hlt:=JG h
    simp only[h,if_true]
    generalize hn:(l.takeWhile (· !=c)).length=n at *
    have w:wr .i64 ((n:Int)+(([c]:List UInt8).length:Int))=((n+1:Nat):Int):=by rw[BH (by simp<;>omega)];simp
    rw[if_pos (by simp),show(0:Int)=((0:Nat):Int)from rfl,CV l 0 n (by omega) (by omega),Option.bind_some,w,CV l (n+1) l.length (by omega) (by omega),Option.bind_some,Option.bind_some]
    rw[List.drop_zero,Nat.sub_zero,←hn,Ja,List.take_of_length_le (by simp),←List.drop_drop,Mm]
  · rw[if_neg h,if_neg h,if_neg (by decide),Option.bind_some]
theorem FD (c:UInt8) (l:List UInt8):(Aa c l).1.length≤l.length∧(Aa c l).2.1.length≤l.length:=by
  unfold Aa
  split
  · refine⟨MG _ _,?_⟩
    have:=(List.dropWhile_sublist (fun x=>x !=c) (l:=l)).length_le
    simp only[List.length_drop];omega
  · simp
def AEN (as:List Bool) (set:List UInt8):Prop:=as.length=256∧ ∀c:UInt8,as[c.toNat]?=some (set.contains c)
theorem AFj (k2:List Bool→Option (List Bool×Bool)) (done:List UInt8): ∀(l:List UInt8) (done:List UInt8) (bn:List Bool),(∀c∈l,c.toNat<128)→AEN bn done→ ∃as,BD N k2 l bn=k2 as∧AEN as (done++l)
  |[],done,bn,hl,hs=>⟨bn,by rw[BD],by simpa using hs⟩
  | x::l,done,bn,hl,hs=>by
    have hx:=hl x (by simp)
    have c1: ¬AL x≥128:=by simp only[AL];omega
    obtain⟨as,h1,h2⟩:=AFj k2 done l (done++[x]) (bn.set x.toNat true) (fun c hc=>hl c (by simp[hc])) ⟨by simp[hs.1],fun c=>by
      rw[List.getElem?_set]
      by_cases e:x.toNat=c.toNat
      · have:x=c:=UInt8.toNat_inj.1 e
        subst this
        rw[if_pos rfl,if_pos (by rw[hs.1];exact x.toNat_lt)]
        simp
      · rw[if_neg e,hs.2 c]
        have: ¬c=x:=fun h=>e (by rw[h])
        simp[this]⟩
    refine⟨as,?_,by simpa using h2⟩
    rw[BD,if_neg (by simpa using c1),AZ (by simp only[AL];omega),AZ (by rw[hs.1];simp only[AL,Int.toNat_natCast];omega)]
    exact h1
theorem ANO (set:List UInt8) (hl: ∀c∈set,c.toNat<128) (hb:set.length≤1000): ∃as,strings_makeASCIISet N set=some (as,true)∧AEN as set:=by
  unfold strings_makeASCIISet
  rw[AJ,AZ (by unfold AV;omega)]
  obtain⟨as,h1,h2⟩:=AFj (N:=N) (fun j1=>grd (j1.length=256) (some (j1,true))) [] set [] (ACj 256) hl ⟨Td,fun c=>by
    have:=c.toNat_lt
    rw[ACj,List.getElem?_replicate,if_pos (by omega)];rfl⟩
  exact⟨as,by rw[h1,AZ h2.1],h2⟩
theorem AEj{as:List Bool}{set:List UInt8} (h:AEN as set) (c:UInt8):Cy N as (AL c)=some (set.contains c,as):=by
  have:=c.toNat_lt
  unfold Cy
  rw[AZ (by simp only[AL];omega),IP,IR,h.2 c];rfl
def AOu (n:Nat):Nat:=if 65≤n∧n≤90 then n+32 else n
def Dn (c:UInt8):UInt8:=UInt8.ofNat (AOu c.toNat)
theorem AD4 (l:List UInt8) (hb:l.length≤2^60) (k2:List Int→Option (List UInt8)): ∀(t pre:List UInt8),l=pre++t→Db N l k2 t (pre.length:Int) (List.map AL (pre.map Dn)++List.map AL t)=k2 (List.map AL (l.map Dn))
  |[],pre,h=>by rw[Db,h];simp
  | c::t,pre,h=>by
    have hlen:pre.length<l.length:=by rw[h];simp
    have hc:=c.toNat_lt
    rw[Db]
    refine(KX (a:=List.map AL (pre.map Dn)++(AL (Dn c)::List.map AL t)) fun k7=>?_).trans ?_
    · rw [AZ (by omega),List.map_cons]
      have hi:idx (List.map AL (pre.map Dn)++AL c::List.map AL t) (pre.length:Int)=some (AL c):=by
        have:=AIa (List.map AL (pre.map Dn)) (List.map AL t) (AL c)
        simpa using this
      rw[hi,Option.bind_some]
      refine(KX (a:=decide (65≤c.toNat∧c.toNat≤90)) fun k12=>?_).trans ?_
      · by_cases h1:65≤c.toNat
        · have:(65:Int)≤AL c:=by simp only[AL];omega
          rw[if_pos (decide_eq_true this)]
          congr 1
          simp only[AL,h1,true_and]
          congr 1;simp only[eq_iff_iff];omega
        · have: ¬(65:Int)≤AL c:=by simp only[AL];omega
          rw[if_neg (by simpa using this),decide_eq_false (fun h=>h1 h.1)]
      try dsimp only
      by_cases h1:65≤c.toNat∧c.toNat≤90
      · rw[if_pos (decide_eq_true h1),AZ (by simp<;>omega)]
        have e:Dn c=UInt8.ofNat (c.toNat+32):=by unfold Dn AOu;rw[if_pos h1]
        have e2:AL (Dn c)=wr .u8 (AL c+32):=by
          rw[e,Vm (by simp only[AL];omega)]
          simp only[AL]
          rw[toNat_ofNat (by omega)];simp
        rw[←e2]
        congr 1
        simp
      · rw[if_neg (by simpa using h1)]
        have e:Dn c=c:=by unfold Dn AOu;rw[if_neg h1];simp
        rw[e]
    · try dsimp only
      have:=AD4 l hb k2 t (pre++[c]) (by rw[h];simp)
      rw[←ADH]at this
      rw[←this]
      simp
theorem lower_eq (l:List UInt8) (hb:l.length≤2^60):F5 N l=some (l.map Dn):=by
  unfold F5
  rw[AJ,AZ (by unfold AV;omega)]
  have:=AD4 (N:=N) l hb (fun j1=>grd (l.length≤j1.length∧AV l.length) (some (List.map FX (List.take l.length j1)))) l [] rfl
  simp only[List.map_nil,List.nil_append,List.length_nil]at this
  rw[show(0:Int)=((0:Nat):Int)from rfl,this,AZ (by unfold AV;simp;omega),List.take_of_length_le (by simp)]
  congr 1
  induction l with
  |nil=>rfl
  |cons c l ih=>simp[Iy]
end
end Go.VM
namespace Go.VM
section
variable{N:Nat}
theorem Rt: ∀l:List UInt8,List.map FX (List.map AL l)=l
  |[]=>rfl
  |c::l=>by rw[List.map_cons,List.map_cons,Iy,Rt l]
def TC:Nat→Nat→List UInt8→List UInt8
  |0,_,acc=>acc
  |k+1,n,acc=>if n / 10=0 then UInt8.ofNat (48+n % 10)::acc else TC k (n / 10) (UInt8.ofNat (48+n % 10)::acc)
def fmtS (n:Nat):List UInt8:=TC 20 n []
theorem AFc: ∀(k n:Nat) (acc:List UInt8),(TC k n acc).length≤acc.length+k
  |0,n,acc=>by simp[TC]
  | k+1,n,acc=>by
    rw[TC]
    split
    · simp<;>omega
    · have:=AFc k (n / 10) (UInt8.ofNat (48+n % 10)::acc)
      simp only[List.length_cons]at this;omega
theorem MU (n:Nat):(fmtS n).length≤20:=by have:=AFc 20 n [];simpa[fmtS]using this
theorem ATd (n:Nat):wr .u64 ((n:Int).tdiv 10)=if n<2^64 then((n / 10:Nat):Int)else wr .u64 ((n:Int).tdiv 10):=by
  split
  · rw[Int.tdiv_eq_ediv_of_nonneg (by omega),H8 (by omega)];simp
  · rfl
theorem ASR{n:Nat} (h:n<2^64):wr .u64 ((n:Int).tdiv 10)=((n / 10:Nat):Int):=by rw[ATd,if_pos h]
theorem ASN{n:Nat}:wr .u64 (48+(n:Int).tmod 10)=((48+n % 10:Nat):Int):=by
  rw[Int.tmod_eq_emod_of_nonneg (by omega),H8 (by omega)];simp
theorem QA: ∀(k n:Nat) (acc:List UInt8),n<10^k→n<2^64→acc.length+k≤1000→ ∀m,k≤m→0<k→Eh N m (n:Int) acc=some (TC k n acc)
  |0,n,acc,h,h2,ha,m,hm,hk=>by omega
  | k+1,n,acc,h,h2,ha,m+1,hm,hk=>by
    rw[Eh,ASR h2,ASN,TC]
    rw[AZ (by unfold AV;simp<;>omega)]
    have e:(List.map FX [wr .u8 ((48+n % 10:Nat):Int)]++acc)=UInt8.ofNat (48+n % 10)::acc:=by
      rw[AG6,Nat.mod_eq_of_lt (show 48+n % 10<256 by omega)];rfl
    rw[e]
    by_cases c:n / 10=0
    · rw[if_pos (by rw[c];rfl),if_pos c]
    · have c': ¬((((n / 10:Nat):Int))==0)=true:=by simp<;>omega
      rw[if_neg c',if_neg c]
      have hk2:0<k:=by
        cases k with
        |zero=>simp at h;omega
        |succ=>omega
      exact QA k (n / 10) _ (by rw[Nat.pow_succ]at h;omega) (by omega) (by simp<;>omega) m (by omega) hk2
theorem Sn (n:Nat) (h:n<2^64) (hN:20≤N):Ho N (n:Int)=some (fmtS n):=by
  unfold Ho fmtS
  exact QA 20 n [] (by omega) h (by simp) N hN (by omega)
theorem AFK (a:Nat) (x:Int) (acc:List Int):(List.replicate (a+1) 0++acc).set a x=List.replicate a 0++x::acc:=by
  rw[List.replicate_succ',List.append_assoc]
  simp
theorem QF (k2:Int×Int×List Int→Option (List UInt8)) (R:List UInt8→Option (List UInt8)) (hk: ∀(n a:Nat) (acc:List UInt8),n<10→a≤19→acc.length+a=19→k2 ((n:Int),(a:Int),List.replicate (a+1) 0++acc.map AL)=R (UInt8.ofNat (48+n)::acc)):
    ∀(j n a:Nat) (acc:List UInt8),n<10^(j+1)→n<2^64→j≤a→a≤19→acc.length+a=19→ ∀m,j<m→ER N k2 m (n:Int) (a:Int) (List.replicate (a+1) 0++acc.map AL)=R (TC (j+1) n acc)
  |j,n,a,acc,h,h2,hj,ha,hl,0,hm=>by omega
  | j,n,a,acc,h,h2,hj,ha,hl,m+1,hm=>by
    rw[ER,TC]
    by_cases c:n / 10=0
    · have c': ¬(n:Int)≥10:=by omega
      rw[if_neg (by simpa using c'),if_pos c,Nat.mod_eq_of_lt (by omega)]
      exact hk n a acc (by omega) ha hl
    · have c':(n:Int)≥10:=by omega
      rw[if_pos (decide_eq_true c'),if_neg c]
      obtain⟨j,rfl⟩: ∃i,j=i+1:=⟨j-1,by
        cases j with
        |zero=>simp at h;omega
        |succ=>omega⟩
      obtain⟨a,rfl⟩: ∃i,a=i+1:=⟨a-1,by omega⟩
      rw[AZ (by omega),AZ (by simp<;>omega),ASR h2,ASN,AG6,Nat.mod_eq_of_lt (show 48+n % 10<256 by omega),BH (by omega)]
      rw[show((a+1:Nat):Int)-1=(a:Int) by simp,Int.toNat_natCast,AFK]
      have e:List.replicate (a+1) 0++((48+n % 10:Nat):Int)::List.map AL acc=List.replicate (a+1) 0++List.map AL (UInt8.ofNat (48+n % 10)::acc):=by
        rw[List.map_cons,IP,toNat_ofNat (by omega)]
      rw[e]
      exact QF k2 R hk j (n / 10) a _ (by rw[Nat.pow_succ]at h;omega) (by omega) (by omega) (by omega) (by simp<;>omega) m (by omega)
theorem Tv (n:Nat) (h:n<2^64) (hN:20≤N):Ep N (n:Int)=some (fmtS n):=by
  unfold Ep fmtS
  rw[AJ]
  refine QF (N:=N) _ some (fun n a acc hn ha hl=>?_) 19 n 19 [] (by omega) h (by omega) (by omega) rfl N (by omega)
  have w:wr .u8 (wr .u64 (48+(n:Int)))=((48+n:Nat):Int):=by
    rw[H8 (by omega),show(48:Int)+(n:Int)=((48+n:Nat):Int) by simp,AG6,Nat.mod_eq_of_lt (by omega)]
  simp only[Int.toNat_natCast,w]
  rw[AFK]
  rw[AZ (by omega),AZ (by simp<;>omega),AZ (by omega),AZ (by unfold AV;simp<;>omega)]
  congr 1
  rw[List.drop_append,List.drop_of_length_le (by simp),List.length_replicate,Nat.sub_self,List.drop_zero,List.nil_append,List.take_of_length_le (by simp<;>omega),List.map_cons,Rt]
  rfl
end
end Go.VM
namespace Go.VM
structure NumP (s sg W F FR P EX:List UInt8):Prop where
  eq:s=sg++(W++(FR++EX))
  sg:sg=[]∨sg=[45]
  Wd:W.all FE=true
  Wn:W≠ []
  fr:(FR=[]∧F=[])∨FR=46::F
  Fd:F.all FE=true
  ex:(EX=[]∧P=[])∨EX=101::P∨EX=69::P
  pw:P=[]∨ ∃sn D,P=sn++D∧(sn=[]∨sn=[43]∨sn=[45])∧D≠ []∧D.all FE=true
end Go.VM
namespace Go.VM
section
variable{N:Nat}
def H6:Nat→List UInt8→Nat
  |n,[]=>n
  |n,c::l=>H6 (n * 10+IL c.toNat) l
theorem TH: ∀(l:List UInt8) (n:Nat),n≤H6 n l
  |[],n=>by rw[H6];exact Nat.le_refl _
  | c::l,n=>by
    have:=TH l (n * 10+IL c.toNat)
    rw[H6];omega
theorem AA8{c:UInt8} (h:FE c=true):48≤c.toNat∧c.toNat≤57:=by
  simpa[FE]using h
theorem SL{c:UInt8} (h:FE c=true):Ke c=true∧IL c.toNat=c.toNat-48:=by
  have:=AA8 h
  refine⟨?_,?_⟩
  · simp only[Ke,Pq,Bool.or_eq_true,Bool.and_eq_true,decide_eq_true_eq];omega
  · unfold IL;rw[if_pos this.2]
theorem ASY (k2:Unit→Option (Int×Int)): ∀l:List UInt8,Al N k2 l=if l.all FE=true then k2 ()else some (0,1)
  |[]=>by rw[Al];rfl
  | c::l=>by
    rw[Al,Pw,Option.bind_some,ASY k2 l]
    cases h:FE c<;>simp[h]
theorem ASO{m:Nat} (hm:m≤2^59) (k9:Int→Option (Int×Int)): ∀(l:List UInt8) (n:Nat),l.all FE=true→n≤m→Ak N 10 (m:Int) k9 l (n:Int)=if H6 n l≤m then k9 ((H6 n l:Nat):Int)else some (0,4)
  |[],n,_,hn=>by rw[Ak,H6,if_pos hn]
  | c::l,n,h,hn=>by
    simp only[List.all_cons,Bool.and_eq_true]at h
    have hd:IL c.toNat≤9:=by have:=AA8 h.1;rw[(SL h.1).2];omega
    obtain⟨hx,hv⟩:=SL h.1
    rw[Ak,AQl c hx,Option.bind_some,AJ,AZ (by decide)]
    have w1:wr .u64 ((n:Int) * 10)=((n * 10:Nat):Int):=by rw[H8 (by omega)];simp
    have w2:wr .u64 (((n * 10:Nat):Int)+((IL c.toNat:Nat):Int))=((n * 10+IL c.toNat:Nat):Int):=by rw[H8 (by omega)];simp
    have w3:wr .u64 (18446744073709551615-((IL c.toNat:Nat):Int))=18446744073709551615-((IL c.toNat:Nat):Int):=H8 (by omega)
    rw[w1,w2,w3,Int.tdiv_eq_ediv_of_nonneg (by omega),H8 (by omega)]
    have c1: ¬((n:Int)>(18446744073709551615-((IL c.toNat:Nat):Int)) / 10):=by omega
    rw[if_neg (by simpa using c1),H6]
    by_cases c2:n * 10+IL c.toNat≤m
    · have c3: ¬(((n * 10+IL c.toNat:Nat):Int)>(m:Int)):=by omega
      rw[decide_eq_false c3]
      simp only[Bool.false_eq_true,if_false]
      exact ASO hm k9 l _ h.2 c2
    · have c3:(((n * 10+IL c.toNat:Nat):Int)>(m:Int)):=by omega
      have:=TH l (n * 10+IL c.toNat)
      rw[decide_eq_true c3,if_neg (by omega)];rfl
theorem AKf{m:Nat} (hm:m≤2^59) (l:List UInt8) (hb:l.length≤2^60):JF N l (m:Int)=some (if l=[]then(0,3)else if l.all FE=true then(if H6 0 l≤m then(((H6 0 l:Nat):Int),0)else(0,4))else(0,1)):=by
  unfold JF Dv
  by_cases h:l=[]
  · subst h;rfl
  · rw[if_neg (by simpa using h),if_neg h,AJ,AZ (by unfold AV;omega),ASY]
    by_cases h1:l.all FE=true
    · rw[if_pos h1,if_pos h1,AJ,AZ (by unfold AV;omega),show(0:Int)=((0:Nat):Int)from rfl,ASO hm _ l 0 h1 (by omega)]
      split<;>rfl
    · rw[if_neg h1,if_neg h1];rfl
section
variable{s sg W F FR P EX:List UInt8}
theorem NumP.len (h:NumP s sg W F FR P EX):s.length=sg.length+(W.length+(FR.length+EX.length))∧F.length≤FR.length∧P.length≤EX.length:=by
  refine⟨by rw[h.eq];simp,?_,?_⟩
  · rcases h.fr with⟨e1,e2⟩|e
    · rw[e2];simp
    · rw[e];simp
  · rcases h.ex with⟨e1,e2⟩|e|e
    · rw[e2];simp
    · rw[e];simp
    · rw[e];simp
end
end
end Go.VM
namespace Go.VM
section
variable{N:Nat}
theorem Rj (set:List UInt8) (hs:set.length≤1000) (k2:Unit→Option Int) (n:Int) (h:k2 ()=some n): ∀(l:List UInt8) (i:Nat),((i+l.length:Nat):Int)=n→DR N set k2 l (i:Int)=some ((i+(l.takeWhile fun c=>!set.contains c).length:Nat):Int)
  |[],i,hn=>by rw[DR,h,←hn];simp
  | c::l,i,hn=>by
    rw[DR,RO _ _ hs,Option.bind_some,List.takeWhile_cons]
    cases hc:set.contains c
    · simp only[List.length_cons]at hn
      rw[if_neg (by decide),show(i:Int)+1=((i+1:Nat):Int) by simp,Rj set hs k2 n h l (i+1) (by rw[←hn];congr 1;omega)]
      simp only[Bool.not_false,if_true,List.length_cons];congr 2;omega
    · simp
theorem Ii (l set:List UInt8) (hs:set.length≤1000) (hb:l.length≤2^60):BX N l set=some (((l.takeWhile fun c=>!set.contains c).length:Nat):Int):=by
  unfold BX
  rw[AJ,AZ (by unfold AV;omega),show(0:Int)=((0:Nat):Int)from rfl,Rj set hs _ _ rfl l 0 (by simp)]
  simp
section
variable{s sg W F FR P EX:List UInt8}
end
end
end Go.VM
