import Derived.Test.YtjgdhjpafjpjgaaGreatDoorVM2
import GoSem.Claim
import Derived.Test.YtjgdhjpafjpjgaaGreatDoorDefs
import Derived.KernelRfl
import Derived.Laws.RangeString
import Derived.Test.YtjgdhjpafjpjgaaGreatDoorRd
set_option linter.unusedVariables false
set_option linter.unusedSimpArgs false
namespace Go.VM
theorem FN{n:Int} (h: -9223372036854775808≤n∧n≤9223372036854775807):wr .i64 n=n:=by
  simp[wr,IntKind.wrap,IntKind.bits,IntKind.signed];omega
theorem ABt{α:Type} (l:List α) (n:Nat):idx l (n:Int)=l[n]?:=by simp[idx]
theorem IX{α:Type} (l:List α) (a b:Nat) (h1:a≤b) (h2:b≤l.length):sub l (a:Int) (b:Int)=some ((l.drop a).take (b-a)):=by
  have h1':(a:Int)≤b:=by omega
  have h2':(b:Int)≤l.length:=by omega
  simp[sub,h1',h2']
theorem E9{α:Type}{c:Prop} [Decidable c]{x:Option α} (h:c):grd c x=x:=by simp[grd,h]
theorem AJ3{α:Type}{n:Nat}{x:Option α} (h:n≤4611686018427387904):grd (Ak n) x=x:=E9 h
theorem EG{α β:Type} (k:α→Option β) (body:(α→Option β)→Option β):AO k body=body k:=rfl
end Go.VM
namespace Go.VM
theorem AGI (c:UInt8):AV c=(c.toNat:Int):=rfl
theorem PV (c:UInt8):FQ (AV c)=c:=by simp[FQ,AV]
theorem AEA{P:Nat→Prop} [∀n,Decidable (P n)] (h:(List.range 256).all (fun n=>decide (P n))=true) (c:UInt8):P c.toNat:=by
  have:=List.all_eq_true.1 h c.toNat (List.mem_range.2 c.toNat_lt)
  simpa using this
theorem AKe{n:Int} (h:0≤n∧n<256):wr .u8 n=n:=by
  simp[wr,IntKind.wrap,IntKind.bits,IntKind.signed];omega
theorem AAv:(List.range 256).all (fun n=>decide (
    Hz .u8 (n:Int) 127=((n / 128 * 128:Nat):Int)∧Hz .u8 (n:Int) 31=((n / 32 * 32:Nat):Int)∧Hz .u8 (n:Int) 15=((n / 16 * 16:Nat):Int)∧Hz .u8 (n:Int) 7=((n / 8 * 8:Nat):Int)∧
    GN .u8 (n:Int) 127=((n % 128:Nat):Int)∧GN .u8 (n:Int) 31=((n % 32:Nat):Int)∧GN .u8 (n:Int) 15=((n % 16:Nat):Int)∧GN .u8 (n:Int) 7=((n % 8:Nat):Int)∧
    GN .u8 (n:Int) 192=((n / 64 * 64:Nat):Int)∧GN .u8 (n:Int) 63=((n % 64:Nat):Int)))=true:=by decide+kernel
theorem QZ (c:UInt8):Hz .u8 (AV c) 15=((c.toNat / 16 * 16:Nat):Int):=(AEA AAv c).2.2.1
end Go.VM
namespace Go.VM
section
variable{N:Nat}
end
end Go.VM
namespace Go.VM
def Ok{α:Type} (x:Option α) (P:α→Prop):Prop:= ∃a,x=some a∧P a
section
variable{α β:Type}{P:α→Prop}{Q:β→Prop}
theorem Ok.ret{a:α} (h:P a):Ok (some a) P:=⟨a,rfl,h⟩
theorem Ok.bind{x:Option β}{f:β→Option α} (h:Ok x Q) (k: ∀b,Q b→Ok (f b) P):Ok (Option.bind x f) P:=by
  obtain⟨b,rfl,hb⟩:=h;exact k b hb
theorem Ok.grd{c:Prop} [Decidable c]{x:Option α} (hc:c) (h:Ok x P):Ok (grd c x) P:=by rw[E9 hc];exact h
theorem Ok.meet (J:β→Prop){k:β→Option α}{body:(β→Option α)→Option α} (hk: ∀b,J b→Ok (k b) P) (hb: ∀k':β→Option α,(∀b,J b→Ok (k' b) P)→Ok (body k') P):Ok (AO k body) P:=hb k hk
theorem Ok.letL{x:β}{f:β→Option α} (h:Ok (f x) P):Ok (letL x f) P:=h
theorem Ok.mono{x:Option α}{P':α→Prop} (h:Ok x P) (k: ∀a,P a→P' a):Ok x P':=by obtain⟨a,e,ha⟩:=h;exact⟨a,e,k a ha⟩
theorem Ok.eq{x:Option α}{a:α} (h:x=some a):Ok x (· =a):=⟨a,h,rfl⟩
theorem Ok.idx{l:List α}{i:Int} (h0:0≤i) (h1:i<l.length):Ok (idx l i) (fun x=>l[i.toNat]?=some x):=by
  have:i.toNat<l.length:=by omega
  exact⟨l[i.toNat],by simp[VM.idx,h0,List.getElem?_eq_getElem this],List.getElem?_eq_getElem this⟩
theorem Ok.sub{l:List α}{a b:Int} (h0:0≤a) (h1:a≤b) (h2:b≤l.length):Ok (sub l a b) (fun x=>x=(l.drop a.toNat).take (b.toNat-a.toNat)∧x.length=(b-a).toNat):=by
  refine⟨_,by simp[VM.sub,h0,h1,h2],rfl,?_⟩
  simp;omega
end
end Go.VM
namespace Go.VM
section
variable{N:Nat}
theorem Hy{α:Type}{l t:List α}{x:α}{i j:Nat} (h:l.drop i=t) (hx:t[j]?=some x):idx l ((i+j:Nat):Int)=some x:=by
  rw[ABt,←List.getElem?_drop,h,hx]
theorem Iz{α:Type}{l t:List α}{i:Nat} (h:l.drop i=t) (hi:i≤l.length):l.length=i+t.length:=by
  have:=congrArg List.length h
  simp at this;omega
section
variable{l t:List UInt8}{i:Nat}{k13:Int→Option (Int×Int×Int)}
end
end
end Go.VM
namespace Go.VM
section
variable{N:Nat}
end
end Go.VM
namespace Go.VM
section
variable{N:Nat}
theorem Iw{α:Type} [DecidableEq α]{f g:Nat→α} (h:(List.range 256).all (fun n=>decide (f n=g n))=true) (c:UInt8):f c.toNat=g c.toNat:=by
  have:=List.all_eq_true.1 h c.toNat (List.mem_range.2 c.toNat_lt)
  simpa using this
def PG (n:Nat):Bool:=(decide (48≤n)&&decide (n≤57))||(decide (65≤n)&&decide (n≤70))||(decide (97≤n)&&decide (n≤102))
def NR (c:UInt8):Bool:=PG c.toNat
def Yd (n:Nat):Nat:=if n≤57 then n-48 else if n≤70 then n-55 else n-87
theorem NW (c:UInt8) (h:NR c=true):Yd c.toNat<16:=by
  simp only[NR,PG,Bool.or_eq_true,Bool.and_eq_true,decide_eq_true_eq]at h
  unfold Yd;split<;>(try split)<;>omega
theorem ACD (c:UInt8):Fp N (AV c)=some (NR c):=
  Iw (f:=fun n=>Fp N (n:Int)) (g:=fun n=>some (PG n)) (by kernel_rfl) c
theorem ABz (c:UInt8):EN N (AV c)=some (NR c):=
  Iw (f:=fun n=>EN N (n:Int)) (g:=fun n=>some (PG n)) (by kernel_rfl) c
end
end Go.VM
namespace Go.VM
section
variable{N:Nat}
end
end Go.VM
namespace Go.VM
section
variable{N:Nat}
section
variable{l:List UInt8}
end
end
end Go.VM
namespace Go.VM
section
variable{N:Nat}
theorem Nj{α:Type} (p:α→Bool) (t:List α):t.take (t.takeWhile p).length=t.takeWhile p:=
  (List.prefix_iff_eq_take.1 (List.takeWhile_prefix p)).symm
theorem Ze{α:Type} (p:α→Bool) (t:List α):(t.takeWhile p).length≤t.length:=(List.takeWhile_sublist p).length_le
def ALp (c:UInt8):Bool:=decide (48≤c.toNat)&&decide (c.toNat≤57)
theorem XU (c:UInt8) (k2:Unit→Option Bool) (h:k2 ()=some false): ∀l:List UInt8,DU N (AV c) k2 l=some (l.contains c)
  |[]=>by rw[DU];simpa using h
  | x::l=>by
    rw[DU,XU c k2 h l,List.contains_cons]
    by_cases e:x=c
    · subst e;simp
    · have e1: ¬c=x:=fun h=>e h.symm
      have:(AV x==AV c)=false:=by
        have: ¬x.toNat=c.toNat:=fun h=>e (UInt8.toNat_inj.1 h)
        simp only[AV,beq_eq_false_iff_ne,ne_eq];omega
      simp[this,e1]
theorem AK5 (c:UInt8) (l:List UInt8) (h:l.length≤1000):FX N (AV c) l=some (l.contains c):=by
  unfold FX
  rw[EG,AJ3 (by omega)]
  exact XU c _ rfl l
section
variable{l:List UInt8}
variable{t:List UInt8}{i:Nat}
end
end
end Go.VM
namespace Go.VM
section
variable{N:Nat}
theorem AIp{α β:Type}{K:α→Option β}{body:(α→Option β)→Option β}{a:α} (h: ∀k:α→Option β,body k=k a):AO K body=K a:=h K
end
end Go.VM
namespace Go.VM
section
variable{N:Nat}
section
variable{l t:List UInt8}{i p:Nat}
end
end
end Go.VM
namespace Go.VM
section
variable{N:Nat}
section
variable{l:List UInt8}
end
theorem K7: ∀l:List UInt8,List.map FQ (List.map AV l)=l
  |[]=>rfl
  |c::l=>by rw[List.map_cons,List.map_cons,PV,K7 l]
end
end Go.VM
namespace Go.VM
section
variable{N:Nat}
theorem PR (c:UInt8) (h:NR c=true):Ef N (AV c)=some ((Yd c.toNat:Nat):Int):=by
  have:=Iw (f:=fun n=>if PG n=true then Ef N (n:Int)else none) (g:=fun n=>if PG n=true then some ((Yd n:Nat):Int)else none) (by kernel_rfl) c
  simp only[show PG c.toNat=true from h,if_true]at this
  exact this
theorem Pf (c:UInt8) (h:NR c=true):Fw N (AV c)=some ((Yd c.toNat:Nat):Int):=by
  have:=Iw (f:=fun n=>if PG n=true then Fw N (n:Int)else none) (g:=fun n=>if PG n=true then some ((Yd n:Nat):Int)else none) (by kernel_rfl) c
  simp only[show PG c.toNat=true from h,if_true]at this
  exact this
def hx (a b:UInt8):UInt8:=UInt8.ofNat (16 * Yd a.toNat+Yd b.toNat)
theorem AM5{x y:Nat} (hx:x<16) (hy:y<16):HV .u8 (SC .u8 (x:Int) 4) (y:Int)=AV (UInt8.ofNat (16 * x+y)):=by
  have:=Iw (f:=fun n=>HV .u8 (SC .u8 ((n / 16:Nat):Int) 4) ((n % 16:Nat):Int)) (g:=fun n=>AV (UInt8.ofNat n)) (by kernel_rfl) (UInt8.ofNat (16 * x+y))
  have e:(UInt8.ofNat (16 * x+y)).toNat=16 * x+y:=by rw[UInt8.toNat_ofNat'];omega
  simp only[e]at this
  rw[show(16 * x+y) / 16=x by omega,show(16 * x+y) % 16=y by omega]at this
  exact this
theorem ANB{x y:Nat} (hx:x<16) (hy:y<16):wr .u8 ((wr .u8 (16 * (x:Int)))+(y:Int))=AV (UInt8.ofNat (16 * x+y)):=by
  have e:(UInt8.ofNat (16 * x+y)).toNat=16 * x+y:=by rw[UInt8.toNat_ofNat'];omega
  rw[AKe (n:=16 * (x:Int)) (by omega),AKe (by omega),AGI,e];omega
def WG:List UInt8→Option UInt8
  |a::b::_=>if(NR a&&NR b)=true then some (hx a b)else none
  |_=>none
def O7:Option UInt8→Int×Bool
  |some x=>(AV x,true)
  |none=>(0,false)
section
variable{l t:List UInt8}{i:Nat}{c:UInt8}
theorem AIu (h:l.drop i=c::t) (hb:l.length≤2^40):Dt N l (i:Int)=some (O7 (WG t)):=by
  have hi:i≤l.length:=by
    have:=congrArg List.length h
    simp only[List.length_drop,List.length_cons]at this;omega
  have hl:=Iz h hi
  simp only[List.length_cons]at hl
  unfold Dt
  dsimp only[EG]
  rw[FN (by omega)]
  match t,h,hl with
  |[],h,hl=>simp only[List.length_nil]at hl;rw[if_pos (by rw[decide_eq_true_eq];omega),if_pos rfl];rfl
  |[a],h,hl=>simp only[List.length_cons,List.length_nil]at hl;rw[if_pos (by rw[decide_eq_true_eq];omega),if_pos rfl];rfl
  | a::b::r,h,hl=>
    simp only[List.length_cons]at hl
    rw[if_neg (by simp;omega),show wr .i64 ((i:Int)+1)=((i+1:Nat):Int) by rw[FN (by omega)];omega,show wr .i64 ((i:Int)+2)=((i+2:Nat):Int) by rw[FN (by omega)];omega,Hy (j:=1) h rfl,Hy (j:=2) h rfl,Option.bind_some,Option.bind_some,ACD,Option.bind_some,Option.bind_some,ACD,Option.bind_some]
    unfold WG
    cases ha:NR a
    · simp[O7,ha]
    · cases hb2:NR b
      · simp[O7,ha,hb2]
      · simp only[Bool.not_true,Bool.and_self,if_true,Bool.false_eq_true,if_false]
        rw[PR a ha,Option.bind_some,Option.bind_some,PR b hb2,Option.bind_some,AM5 (NW a ha) (NW b hb2)];simp[O7,ha,hb2,hx]
theorem AKS (h:l.drop i=37::t) (hb:l.length≤2^40):GL N l (i:Int)=some (O7 (WG t)):=by
  have hi:i≤l.length:=by
    have:=congrArg List.length h
    simp only[List.length_drop,List.length_cons]at this;omega
  have hl:=Iz h hi
  simp only[List.length_cons]at hl
  unfold GL
  dsimp only[EG]
  rw[show wr .i64 ((i:Int)+1)=((i+1:Nat):Int) by rw[FN (by omega)];omega,show wr .i64 ((i:Int)+2)=((i+2:Nat):Int) by rw[FN (by omega)];omega]
  match t,h,hl with
  |[],h,hl=>simp only[List.length_nil]at hl;rw[if_pos (by rw[decide_eq_true_eq];omega),if_pos rfl];rfl
  |[a],h,hl=>simp only[List.length_cons,List.length_nil]at hl;rw[if_pos (by rw[decide_eq_true_eq];omega),if_pos rfl];rfl
  | a::b::r,h,hl=>
    simp only[List.length_cons]at hl
    rw[if_neg (by simp;omega),show idx l (i:Int)=some 37 from Hy (j:=0) h rfl,Option.bind_some,if_neg (by decide),Hy (j:=1) h rfl,Hy (j:=2) h rfl,Option.bind_some,Option.bind_some,ABz,Option.bind_some,Option.bind_some,ABz,Option.bind_some]
    unfold WG
    cases ha:NR a
    · simp[O7,ha]
    · cases hb2:NR b
      · simp[O7,ha,hb2]
      · simp only[Bool.not_true,Bool.and_self,if_true,Bool.false_eq_true,if_false]
        rw[Pf a ha,Option.bind_some,Option.bind_some,Pf b hb2,Option.bind_some,ANB (NW a ha) (NW b hb2)];simp[O7,ha,hb2,hx]
def Q4:Nat→List UInt8→List UInt8→List UInt8×Int
  |0,_,_=>([],2)
  |_+1,[],out=>(out,0)
  |k+1,c::t,out=>if c=37 then(match WG t with|some x=>Q4 k (t.drop 2) (out++[x])|none=>([],2))else Q4 k t (out++[c])
theorem QH{n:Nat} (h:n≤1000000000):Ck n 1:=by unfold Ck;omega
theorem ABx{x:UInt8} (h:WG t=some x):2≤t.length:=by
  match t,h with
  |[],h=>cases h
  |[_],h=>cases h
  |_::_::_,_=>simp
theorem AFf (c:UInt8):(AV c==37)=decide (c=37):=by
  have:=Iw (f:=fun n=>((n:Int)==37)) (g:=fun n=>decide (UInt8.ofNat n=37)) (by kernel_rfl) c
  simp only[UInt8.ofNat_toNat]at this
  exact this
theorem MX (hb:l.length≤100000): ∀(k:Nat) (t:List UInt8) (i:Nat) (out:List UInt8),l.drop i=t→i≤l.length→t.length<k→out.length≤i→
    CB N l (fun j=>some (List.map FQ j,0)) k (List.map AV out) (i:Int)=some (Q4 k t out)
  |0,t,i,out,_,_,h,_=>by omega
  | k+1,[],i,out,h,hi,hk,ho=>by
    have hl:=Iz h hi
    rw[CB,if_neg (by simp at hl⊢;omega),K7];rfl
  | k+1,c::t,i,out,h,hi,hk,ho=>by
    have hl:=Iz h hi
    simp only[List.length_cons]at hl hk
    rw[CB,if_pos (by simp;omega),show idx l (i:Int)=some c from Hy (j:=0) h rfl,Option.bind_some,EG,AFf]
    have hd:l.drop (i+1)=t:=by rw[←List.drop_drop,h];rfl
    by_cases hc:c=37
    · rw[decide_eq_true hc,if_pos rfl,AIu h (by omega),Option.bind_some,Q4,if_pos hc]
      cases he:WG t with
      |none=>rfl
      | some x=>
        have:=ABx he
        simp only[O7,if_true]
        rw[E9 (QH (by simp;omega)),show wr .i64 (wr .i64 ((i:Int)+2)+1)=((i+3:Nat):Int) by rw[FN (n:=(i:Int)+2) (by omega),FN (by omega)];omega,show List.map AV out++[AV x]=List.map AV (out++[x]) by simp]
        exact MX hb k _ (i+3) (out++[x]) (by rw[show i+3=i+1+2 by omega,←List.drop_drop,hd]) (by omega) (by rw[List.length_drop];omega) (by simp;omega)
    · rw[decide_eq_false hc,if_neg (by decide),Q4,if_neg hc]
      dsimp only
      rw[E9 (QH (by simp;omega)),show wr .i64 ((i:Int)+1)=((i+1:Nat):Int) by rw[FN (by omega)];omega,show List.map AV out++[AV c]=List.map AV (out++[c]) by simp]
      exact MX hb k t (i+1) (out++[c]) hd (by omega) (by omega) (by simp;omega)
theorem Mj (hb:l.length≤100000): ∀(k:Nat) (t:List UInt8) (i:Nat) (out:List UInt8),l.drop i=t→i≤l.length→t.length<k→out.length≤i→
    Cj N l (fun j=>some (List.map FQ j,0)) k (List.map AV out) (i:Int)=some (Q4 k t out)
  |0,t,i,out,_,_,h,_=>by omega
  | k+1,[],i,out,h,hi,hk,ho=>by
    have hl:=Iz h hi
    rw[Cj,if_neg (by simp at hl⊢;omega),K7];rfl
  | k+1,c::t,i,out,h,hi,hk,ho=>by
    have hl:=Iz h hi
    simp only[List.length_cons]at hl hk
    rw[Cj,if_pos (by simp;omega),show idx l (i:Int)=some c from Hy (j:=0) h rfl,Option.bind_some,EG,AFf]
    have hd:l.drop (i+1)=t:=by rw[←List.drop_drop,h];rfl
    by_cases hc:c=37
    · subst hc
      rw[decide_eq_true rfl,if_pos rfl,AKS h (by omega),Option.bind_some,Q4,if_pos rfl]
      cases he:WG t with
      |none=>rfl
      | some x=>
        have:=ABx he
        simp only[O7,if_true]
        rw[E9 (QH (by simp;omega)),show wr .i64 (wr .i64 ((i:Int)+2)+1)=((i+3:Nat):Int) by rw[FN (n:=(i:Int)+2) (by omega),FN (by omega)];omega,show List.map AV out++[AV x]=List.map AV (out++[x]) by simp]
        exact Mj hb k _ (i+3) (out++[x]) (by rw[show i+3=i+1+2 by omega,←List.drop_drop,hd]) (by omega) (by rw[List.length_drop];omega) (by simp;omega)
    · rw[decide_eq_false hc,if_neg (by decide),Q4,if_neg hc]
      dsimp only
      rw[E9 (QH (by simp;omega)),show wr .i64 ((i:Int)+1)=((i+1:Nat):Int) by rw[FN (by omega)];omega,show List.map AV out++[AV c]=List.map AV (out++[c]) by simp]
      exact Mj hb k t (i+1) (out++[c]) hd (by omega) (by omega) (by simp;omega)
end
def ABN (N:Nat) (s:List UInt8):List UInt8×Int:=if s.length>16384 then([],5)else Q4 N s []
theorem ABW (s:List UInt8) (hN:20000≤N):Di N s=some (ABN N s):=by
  unfold Di ABN
  by_cases h:s.length>16384
  · rw[if_pos (by simp;omega),if_pos h]
  · rw[if_neg (by simp;omega),if_neg h,EG]
    exact MX (l:=s) (by omega) N s 0 [] rfl (by omega) (by omega) (by simp)
theorem AAc (s:List UInt8) (hN:20000≤N):F5 N s=some (ABN N s):=by
  unfold F5 ABN
  by_cases h:s.length>16384
  · rw[if_pos (by simp;omega),if_pos h]
  · rw[if_neg (by simp;omega),if_neg h,EG]
    exact Mj (l:=s) (by omega) N s 0 [] rfl (by omega) (by omega) (by simp)
end
end Go.VM
namespace Go.VM
section
variable{N:Nat}
section
variable{l also:List UInt8}
end
end
end Go.VM
namespace Go.VM
section
variable{N:Nat}
section
variable{l also:List UInt8}
end
end
end Go.VM
namespace Go.VM
section
variable{N:Nat}
theorem Lc: ∀(l:List UInt8) (c:UInt8),Go.Lib.indexByte l c=if l.contains c=true then(((l.takeWhile (· !=c)).length:Nat):Int)else-1
  |[],c=>rfl
  | x::l,c=>by
    have ih:=Lc l c
    rw[Go.Lib.indexByte,List.contains_cons]
    by_cases e:x=c
    · subst e;simp
    · have e1:(c==x)=false:=by simpa using fun h:c=x=>e h.symm
      have e2:(x==c)=false:=by simpa using e
      have e3:(x !=c)=true:=by simpa using e
      rw[e1,e2,Bool.false_or,List.takeWhile_cons,e3]
      simp only[Bool.false_eq_true,if_false,if_true,List.length_cons]
      by_cases k:l.contains c=true
      · rw[if_pos k]at ih
        rw[if_pos k,ih]
        have:(((((l.takeWhile (· !=c)).length:Nat):Int))== -1)=false:=by
          simp only[beq_eq_false_iff_ne,ne_eq];omega
        rw[this];simp
      · rw[if_neg k]at ih
        rw[if_neg k,ih];rfl
theorem OH{α:Type} (p:α→Bool) (l:List α):l.drop (l.takeWhile p).length=l.dropWhile p:=by
  have:=List.takeWhile_append_dropWhile (p:=p) (l:=l)
  conv=>lhs;rw[←this]
  rw[List.drop_append,List.drop_of_length_le (by rw[this];exact Nat.le_refl _),this]
  simp
def FK (c:UInt8) (l:List UInt8):List UInt8×List UInt8×Bool:=if l.contains c=true then(l.takeWhile (· !=c),(l.dropWhile (· !=c)).drop 1,true)else(l,[],false)
theorem Mg{c:UInt8}: ∀ {l:List UInt8},l.contains c=true→(l.takeWhile (· !=c)).length<l.length
  |[],h=>by cases h
  | x::l,h=>by
    rw[List.takeWhile_cons]
    by_cases e:x=c
    · subst e;simp
    · have e3:(x !=c)=true:=by simpa using e
      rw[List.contains_cons]at h
      have e1:(c==x)=false:=by simpa using fun h:c=x=>e h.symm
      rw[e1,Bool.false_or]at h
      rw[e3]
      have:=Mg h
      simp only[if_true,List.length_cons];omega
theorem AFY (c:UInt8) (l:List UInt8) (hb:l.length≤2^60):strings_Cut N l [c]=some (FK c l):=by
  unfold strings_Cut Cw Bj FK
  have hk: ∀k:Bool→Option Int,(if((([c]:List UInt8).length:Int)==0)=true then k true else k ([c]==l))=k ([c]==l):=fun k=>rfl
  have hI:(AO (fun j1:Bool=>if j1=true then some (0:Int)else if((([c]:List UInt8).length:Int)==1)=true then Option.bind (idx [c] 0) fun x5=>Option.bind (BA N l (AV x5)) fun y6=>some y6 else if decide ((([c]:List UInt8).length:Int)≥(l.length:Int))=true then some (-1)else none) fun k2=>if((([c]:List UInt8).length:Int)==0)=true then k2 true else k2 ([c]==l))=some (Go.Lib.indexByte l c):=by
    refine(AIp (a:=[c]==l) fun k=>rfl).trans ?_
    by_cases h:([c]==l)=true
    · have:l=[c]:=by have:=beq_iff_eq.1 h;exact this.symm
      subst this
      simp[Go.Lib.indexByte]
    · rw[if_neg h,if_pos (by rfl),show idx [c] 0=some c from rfl,Option.bind_some]
      unfold BA
      rw[PV];rfl
  rw[hI,Option.bind_some,Lc]
  by_cases h:l.contains c=true
  · have hlt:=Mg h
    simp only[h,if_true]
    generalize hn:(l.takeWhile (· !=c)).length=n at *
    have w:wr .i64 ((n:Int)+(([c]:List UInt8).length:Int))=((n+1:Nat):Int):=by rw[FN (by simp<;>omega)];simp
    rw[if_pos (by simp),show(0:Int)=((0:Nat):Int)from rfl,IX l 0 n (by omega) (by omega),Option.bind_some,w,IX l (n+1) l.length (by omega) (by omega),Option.bind_some,Option.bind_some]
    rw[List.drop_zero,Nat.sub_zero,←hn,Nj,List.take_of_length_le (by simp),←List.drop_drop,OH]
  · rw[if_neg h,if_neg h,if_neg (by decide),Option.bind_some]
theorem AL5 (c:UInt8) (l:List UInt8):(FK c l).1.length≤l.length∧(FK c l).2.1.length≤l.length:=by
  unfold FK
  split
  · refine⟨Ze _ _,?_⟩
    have:=(List.dropWhile_sublist (fun x=>x !=c) (l:=l)).length_le
    simp only[List.length_drop];omega
  · simp
end
end Go.VM
namespace Go.VM
section
variable{N:Nat}
end
end Go.VM
namespace Go.VM
structure NumP (s sg W F FR P EX:List UInt8):Prop where
  eq:s=sg++(W++(FR++EX))
  sg:sg=[]∨sg=[45]
  Wd:W.all ALp=true
  Wn:W≠ []
  fr:(FR=[]∧F=[])∨FR=46::F
  Fd:F.all ALp=true
  ex:(EX=[]∧P=[])∨EX=101::P∨EX=69::P
  pw:P=[]∨ ∃sn D,P=sn++D∧(sn=[]∨sn=[43]∨sn=[45])∧D≠ []∧D.all ALp=true
end Go.VM
namespace Go.VM
section
variable{N:Nat}
section
variable{s sg W F FR P EX:List UInt8}
theorem NumP.len (h:NumP s sg W F FR P EX):s.length=sg.length+(W.length+(FR.length+EX.length))∧F.length≤FR.length∧P.length≤EX.length:=by
  refine⟨by rw[h.eq];simp,?_,?_⟩
  · rcases h.fr with⟨e1,e2⟩|e
    · rw[e2];simp
    · rw[e];simp
  · rcases h.ex with⟨e1,e2⟩|e|e
    · rw[e2];simp
    · rw[e];simp
    · rw[e];simp
end
end
end Go.VM
namespace Go.VM
section
variable{N:Nat}
theorem ND (set:List UInt8) (hs:set.length≤1000) (k2:Unit→Option Int) (n:Int) (h:k2 ()=some n): ∀(l:List UInt8) (i:Nat),((i+l.length:Nat):Int)=n→CJ N set k2 l (i:Int)=some ((i+(l.takeWhile fun c=>!set.contains c).length:Nat):Int)
  |[],i,hn=>by rw[CJ,h,←hn];simp
  | c::l,i,hn=>by
    rw[CJ,AK5 _ _ hs,Option.bind_some,List.takeWhile_cons]
    cases hc:set.contains c
    · simp only[List.length_cons]at hn
      rw[if_neg (by decide),show(i:Int)+1=((i+1:Nat):Int) by simp,ND set hs k2 n h l (i+1) (by rw[←hn];congr 1;omega)]
      simp only[Bool.not_false,if_true,List.length_cons];congr 2;omega
    · simp
theorem AD9 (l set:List UInt8) (hs:set.length≤1000) (hb:l.length≤2^60):EK N l set=some (((l.takeWhile fun c=>!set.contains c).length:Nat):Int):=by
  unfold EK
  rw[EG,E9 (by unfold Ak;omega),show(0:Int)=((0:Nat):Int)from rfl,ND set hs _ _ rfl l 0 (by simp)]
  simp
section
variable{s sg W F FR P EX:List UInt8}
end
end
end Go.VM
namespace Go.VM
section
variable{N:Nat}
end
end Go.VM
namespace Go.VM
section
variable{N:Nat}
end
end Go.VM
namespace Go.VM
section
variable{N:Nat}
end
end Go.VM
namespace Go.VM
def Cm (c:UInt8):List UInt8→List (List UInt8)
  |[]=>[[]]
  |x::t=>if x=c then []::Cm c t else(match Cm c t with|p::ps=>(x::p)::ps|[]=>[[x]])
theorem MJ (c:UInt8): ∀l:List UInt8,Cm c l≠ []
  |[]=>by simp[Cm]
  | x::t=>by
    rw[Cm]
    split
    · simp
    · split<;>simp
def ABQ (cur:List UInt8):List (List UInt8)→List (List UInt8)
  |p::ps=>(cur++p)::ps
  |[]=>[cur]
theorem AEK{c x:UInt8}{t cur:List UInt8} (h: ¬x=c):ABQ cur (Cm c (x::t))=ABQ (cur++[x]) (Cm c t):=by
  rw[Cm,if_neg h]
  cases hs:Cm c t with
  |nil=>exact absurd hs (MJ c t)
  |cons p ps=>simp[ABQ]
theorem LQ (c:UInt8): ∀l:List UInt8,(Cm c l).length≤l.length+1
  |[]=>by simp[Cm]
  | x::t=>by
    have:=LQ c t
    rw[Cm]
    split
    · simp only[List.length_cons];omega
    · split
      · rename_i h;rw[h]at this;simp only[List.length_cons]at this⊢;omega
      · simp
theorem IR (c:UInt8): ∀(l p:List UInt8),p∈Cm c l→p.length≤l.length
  |[],p,h=>by simp[Cm]at h;subst h;simp
  | x::t,p,h=>by
    rw[Cm]at h
    split at h
    · rcases List.mem_cons.1 h with rfl|h
      · simp
      · have:=IR c t p h;simp only[List.length_cons];omega
    · split at h
      · rename_i q qs hq
        rcases List.mem_cons.1 h with rfl|h
        · have:=IR c t q (by rw[hq];simp);simp only[List.length_cons];omega
        · have:=IR c t p (by rw[hq];simp[h]);simp only[List.length_cons];omega
      · simp only[List.mem_singleton]at h;subst h;simp
section
variable{N:Nat}
theorem ANJ (x c:UInt8):(AV x==AV c)=decide (x=c):=by
  by_cases e:x=c
  · subst e;simp
  · have: ¬x.toNat=c.toNat:=fun h=>e (UInt8.toNat_inj.1 h)
    rw[decide_eq_false e]
    simp only[AV,beq_eq_false_iff_ne,ne_eq];omega
theorem Js (l:List UInt8) (c:UInt8) (hb:l.length≤1000000): ∀(t pre cur:List UInt8) (out:List (List UInt8)),l=pre++(cur++t)→out.length≤pre.length+cur.length→
    CK N l (AV c) (fun j1=>Option.bind (sub l j1.2 (l.length:Int)) fun x11=>grd (Ck (j1.1.length+1) 16) (some (j1.1++[x11]))) t ((pre.length+cur.length:Nat):Int) out (pre.length:Int)=some (out++ABQ cur (Cm c t))
  | [],pre,cur,out,h,ho=>by
    have hl:=congrArg List.length h
    simp only[List.length_append,List.length_nil]at hl
    rw[CK]
    dsimp only
    rw[IX l pre.length l.length (by omega) (by omega),Option.bind_some,E9 (by unfold Ck;omega),h,List.drop_left]
    simp[Cm,ABQ]
  | x::t,pre,cur,out,h,ho=>by
    have hl:=congrArg List.length h
    simp only[List.length_append,List.length_cons]at hl
    rw[CK,EG,ANJ]
    by_cases e:x=c
    · rw[decide_eq_true e,if_pos rfl,IX l pre.length (pre.length+cur.length) (by omega) (by omega),Option.bind_some,E9 (by unfold Ck;omega)]
      dsimp only
      have:=Js l c hb t (pre++cur++[x]) [] (out++[cur]) (by rw[h];simp) (by simp only[List.length_append,List.length_cons,List.length_nil];omega)
      have e1:(l.drop pre.length).take (pre.length+cur.length-pre.length)=cur:=by
        rw[h,List.drop_left,show pre.length+cur.length-pre.length=cur.length by omega,List.take_left]
      rw[e1,Cm,if_pos e]
      rw[show(((pre++cur++[x]).length+([]:List UInt8).length:Nat):Int)=((pre.length+cur.length:Nat):Int)+1 by simp only[List.length_append,List.length_cons,List.length_nil];omega,show(((pre++cur++[x]).length:Nat):Int)=((pre.length+cur.length:Nat):Int)+1 by simp only[List.length_append,List.length_cons,List.length_nil];omega]at this
      rw[this]
      cases hs:Cm c t with
      |nil=>exact absurd hs (MJ c t)
      |cons p ps=>simp[ABQ]
    · rw[decide_eq_false e,if_neg (by decide),AEK e]
      dsimp only
      have:=Js l c hb t pre (cur++[x]) out (by rw[h];simp) (by simp only[List.length_append,List.length_cons,List.length_nil];omega)
      rw[show((pre.length+(cur++[x]).length:Nat):Int)=((pre.length+cur.length:Nat):Int)+1 by simp only[List.length_append,List.length_cons,List.length_nil];omega]at this
      exact this
theorem AE3 (l:List UInt8) (c:UInt8) (hb:l.length≤1000000):Gq N l (AV c)=some (Cm c l):=by
  unfold Gq
  rw[EG,AJ3 (by omega)]
  have:=Js (N:=N) l c hb l [] [] [] rfl (by simp)
  refine this.trans ?_
  cases hs:Cm c l with
  |nil=>exact absurd hs (MJ c l)
  |cons p ps=>simp[ABQ]
end
end Go.VM
namespace Go.VM
theorem PW (c:UInt8): ∀l:List UInt8,Cm c l=if(FK c l).2.2=true then(FK c l).1::Cm c (FK c l).2.1 else [(FK c l).1]
  |[]=>by simp[Cm,FK]
  | x::t=>by
    have ih:=PW c t
    rw[Cm]
    unfold FK at ih⊢
    by_cases e:x=c
    · subst e;simp
    · have e1:(c==x)=false:=by simpa using fun h:c=x=>e h.symm
      have e3:(x !=c)=true:=by simpa using e
      rw[if_neg e,List.contains_cons,e1,Bool.false_or,List.takeWhile_cons,e3]
      cases hc:t.contains c
      · rw[hc]at ih;simp only[Bool.false_eq_true,if_false]at ih⊢;rw[ih]
      · rw[hc]at ih;simp only[if_true]at ih⊢;rw[ih,List.dropWhile_cons,e3];simp
section
variable{N:Nat}
theorem AIE{c:UInt8}{l:List UInt8} (h:(FK c l).2.2=true):(FK c l).2.1.length<l.length:=by
  unfold FK at h⊢
  cases hc:l.contains c
  · rw[hc]at h;simp at h
  · have h1:=Mg hc
    have h2:(l.takeWhile (· !=c)).length+(l.dropWhile (· !=c)).length=l.length:=by rw[←List.length_append,List.takeWhile_append_dropWhile]
    simp only[if_true,List.length_drop];omega
end
end Go.VM
namespace Go.VM
section
variable{N:Nat}
end
end Go.VM
namespace Go.VM
section
variable{N:Nat}
theorem ABK{c:UInt8}: ∀l:List UInt8,l.contains c=false→l.takeWhile (· !=c)=l
  |[],_=>rfl
  | x::t,h=>by
    rw[List.contains_cons,Bool.or_eq_false_iff]at h
    have e:(x !=c)=true:=by simp only[bne_iff_ne,ne_eq];rintro rfl;simp at h
    rw[List.takeWhile_cons,e,if_pos rfl,ABK t h.2]
end
end Go.VM
namespace Go.VM
section
variable{N:Nat}
end
end Go.VM
namespace Go.VM
section
variable{N:Nat}
theorem ABy{c:UInt8}{l:List UInt8} (h:l.contains c=false):FK c l=(l,[],false):=by unfold FK;rw[if_neg (by rw[h];decide)]
theorem AI1{c:UInt8}{l:List UInt8} (h:l.contains c=true) (hb:l.length≤1000000):
    sub l 0 (wr .i64 (Go.Lib.indexByte l c+0))=some (FK c l).1∧sub l (wr .i64 (Go.Lib.indexByte l c+(([c]:List UInt8).length:Int))) (l.length:Int)=some (FK c l).2.1:=by
  have hlt:=Mg h
  rw[Lc]
  unfold FK
  simp only[h,if_true]
  generalize hn:(l.takeWhile (· !=c)).length=n at *
  have w:wr .i64 ((n:Int)+(([c]:List UInt8).length:Int))=((n+1:Nat):Int):=by rw[FN (by simp<;>omega)];simp
  have w0:wr .i64 ((n:Int)+0)=(n:Int):=by rw[FN (by omega)];omega
  rw[w,w0,show(0:Int)=((0:Nat):Int)from rfl,IX l 0 n (by omega) (by omega),IX l (n+1) l.length (by omega) (by omega)]
  rw[List.drop_zero,Nat.sub_zero,←hn,Nj,List.take_of_length_le (by simp),←List.drop_drop,OH]
  exact⟨rfl,rfl⟩
end
end Go.VM
namespace Go.VM
section
variable{N:Nat}
end
end Go.VM
namespace Go.VM
section
variable{N:Nat}
end
end Go.VM
namespace Go.VM
section
variable{N:Nat}
end
end Go.VM
namespace Go.VM
section
variable{N:Nat}
end
end Go.VM
namespace Go.VM
section
variable{N:Nat}
theorem ANN (c:UInt8) (l:List UInt8) (hb:l.length≤1000000):EK N l [c]=some (((l.takeWhile (· !=c)).length:Nat):Int):=by
  have hw:(fun x:UInt8=>!([c]:List UInt8).contains x)=(fun x=>x !=c):=by funext x;simp[bne];rfl
  rw[AD9 l [c] (by simp) (by omega),hw]
theorem Zo{c:UInt8}{l:List UInt8} (h:l.contains c=true) (hb:l.length≤1000000):
    sub l 0 (((l.takeWhile (· !=c)).length:Nat):Int)=some (FK c l).1∧sub l (wr .i64 ((((l.takeWhile (· !=c)).length:Nat):Int)+1)) (l.length:Int)=some (FK c l).2.1:=by
  have hlt:=Mg h
  obtain⟨s1,s2⟩:=AI1 h hb
  rw[Lc,if_pos h]at s1 s2
  have w0:wr .i64 (((l.takeWhile (· !=c)).length:Int)+0)=((l.takeWhile (· !=c)).length:Int):=by rw[FN (by omega)];omega
  rw[w0]at s1
  exact⟨s1,s2⟩
end
end Go.VM
namespace Go.VM
theorem ALc:JJ 1099511627776=some true:=by kernel_rfl
section
variable{N:Nat}
def GY (N:Nat) (out:List ApiField) (s:List UInt8):List ApiField:=
  if(s==[])=true then out else if((ABN N (FK 61 s).2.1).2==0)=true then out++[⟨(FK 61 s).1,(ABN N (FK 61 s).2.1).1⟩]else out
theorem K3 (out:List ApiField) (s:List UInt8):(GY N out s).length≤out.length+1:=by
  unfold GY
  split
  · omega
  split
  · simp
  · omega
def AAy (N:Nat) (q:List UInt8):List ApiField:=(Cm 38 q).foldl (GY N) []
theorem AB5{n b:Nat} (h:n≤1000000) (hb:b≤1000):Ck n b:=by
  unfold Ck
  have:n * b≤1000000 * 1000:=Nat.mul_le_mul h hb
  omega
theorem AG4 (s:List UInt8) (out:List ApiField) (hs:s.length≤100000) (ho:out.length≤100000) (hN:20000≤N) (h0:(s==[])=false):Du N s out=some (GY N out s):=by
  unfold Du GY
  rw[AFY 61 s (by omega),Option.bind_some,ABW _ hN,Option.bind_some,h0,if_neg (show¬(false=true) by decide),E9 (AB5 (by omega) (by omega))]
  split<;>rfl
theorem Pm (hN:20000≤N): ∀(k:Nat) (q:List UInt8) (out:List ApiField),q.length<k→q.length≤100000→out.length+q.length≤90000→CR N k q out=some ((Cm 38 q).foldl (GY N) out)
  |0,q,out,h,_,_=>by omega
  | k+1,q,out,h,hb,ho=>by
    have hle:=AL5 38 q
    rw[CR,AFY 38 q (by omega),Option.bind_some,PW]
    have e:(if((FK 38 q).1==[])=true then some out else Du N (FK 38 q).1 out)=some (GY N out (FK 38 q).1):=by
      cases h0:((FK 38 q).1==[])
      · rw[if_neg (by decide),AG4 _ _ (by omega) (by omega) hN h0]
      · rw[if_pos rfl];unfold GY;rw[if_pos h0]
    rw[e,Option.bind_some]
    have hl:=K3 (N:=N) out (FK 38 q).1
    cases hc:(FK 38 q).2.2
    · rfl
    · have hless:=AIE hc
      rw[if_pos rfl,if_pos rfl,List.foldl_cons]
      exact Pm hN k _ _ (by omega) (by omega) (by omega)
theorem AI9 (q:List UInt8) (hb:q.length≤20000) (hN:100000≤N):GK N q=some (AAy N q):=Pm (by omega) N q [] (by omega) (by omega) (by simp;omega)
theorem AI0 (x:List UInt8) (hb:x.length≤1000000):Hw N x (wr .i64 ((((x.takeWhile (· !=(61:UInt8))).length:Nat):Int)+1))=some (FK 61 x).2.1:=by
  have hw:=Ze (· !=(61:UInt8)) x
  have e:wr .i64 ((((x.takeWhile (· !=(61:UInt8))).length:Nat):Int)+1)=(((x.takeWhile (· !=(61:UInt8))).length+1:Nat):Int):=by rw[FN (by omega)];omega
  unfold Hw
  cases hc:x.contains 61
  · rw[e,ABK x hc,if_pos (by simp only[decide_eq_true_eq];omega),ABy hc]
  · have hlt:=Mg hc
    obtain⟨_,s2⟩:=Zo hc hb
    have s2':=s2
    rw[s2']
    rw[e]at s2⊢
    by_cases hge:x.length≤(x.takeWhile (· !=(61:UInt8))).length+1
    · rw[if_pos (by simp only[decide_eq_true_eq];omega)]
      have:(x.takeWhile (· !=(61:UInt8))).length+1=x.length:=by omega
      rw[this]at s2
      rw[IX x x.length x.length (Nat.le_refl _) (Nat.le_refl _)]at s2
      rw[←Option.some.inj s2];simp
    · rw[if_neg (by simp only[decide_eq_true_eq];omega),Option.bind_some]
theorem AGL (x:List UInt8) (hb:x.length≤1000000):sub x 0 (((x.takeWhile (· !=(61:UInt8))).length:Nat):Int)=some (FK 61 x).1:=by
  cases hc:x.contains 61
  · rw[ABK x hc,ABy hc,show(0:Int)=((0:Nat):Int)from rfl,IX x 0 x.length (Nat.zero_le _) (Nat.le_refl _)];simp
  · exact(Zo hc hb).1
theorem PT (hN:20000≤N) (k:List ApiField→Option (List ApiField)): ∀(xs:List (List UInt8)) (out:List ApiField),(∀x,x∈xs→x.length≤100000)→out.length+xs.length≤90000→Bl N k xs out=k (xs.foldl (GY N) out)
  |[],out,_,_=>by rw[Bl];rfl
  | x::xs,out,h,hb=>by
    have hx:=h x (by simp)
    have hl:=K3 (N:=N) out x
    rw[List.length_cons]at hb
    have ih:=PT hN k xs (GY N out x) (fun y hy=>h y (by simp[hy])) (by omega)
    rw[Bl,List.foldl_cons,←ih]
    dsimp only[EG]
    rw[ANN 61 x (by omega),Option.bind_some,AI0 x (by omega),Option.bind_some,AAc _ hN,Option.bind_some,AGL x (by omega),Option.bind_some,E9 (AB5 (by omega) (by omega))]
    unfold GY
    cases (x==[])<;>cases ((ABN N (FK 61 x).2.1).2==0)<;>rfl
theorem AJM (q:List UInt8) (hb:q.length≤20000) (hN:100000≤N):F3 N q=some (AAy N q):=by
  have hl:=LQ 38 q
  unfold F3
  dsimp only[EG]
  rw[show(38:Int)=AV 38 from rfl,AE3 q 38 (by omega),Option.bind_some,AJ3 (by omega),PT (by omega) _ _ _ (fun x hx=>by have:=IR 38 q x hx;omega) (by simp;omega)]
  rfl
theorem OM (l:List ApiField) (k:Unit→Option Bool): ∀(xs pre:List ApiField),l=pre++xs→BJ N l k xs (pre.length:Int)=k ()
  |[],pre,_=>by rw[BJ]
  | x::xs,pre,h=>by
    have e:idx l (pre.length:Int)=some x:=by rw[ABt,h];simp
    rw[BJ,e,Option.bind_some,if_pos (by simp)]
    have:=OM l k xs (pre++[x]) (by rw[h];simp)
    rw[List.length_append,List.length_cons,List.length_nil]at this
    exact this
theorem AAF (l:List ApiField) (hb:l.length≤1000000):EC N l l=some true:=by
  unfold EC
  dsimp only[EG]
  rw[if_neg (by simp),AJ3 (by omega)]
  exact OM l _ l [] rfl
theorem PP: ∀(xs:List (List UInt8)) (out:List ApiField),(xs.foldl (GY N) out).length≤out.length+xs.length
  |[],_=>Nat.le_refl _
  | x::xs,out=>by
    have h1:=K3 (N:=N) out x
    have h2:=PP xs (GY N out x)
    rw[List.foldl_cons,List.length_cons];omega
theorem MV (s:List UInt8) (_:s.length≤reachBytes):Er 1099511627776 s=some true:=by
  unfold Er
  rw[ALc,Option.bind_some,if_pos rfl]
  by_cases hl:(s.length:Int)>1000
  · rw[if_pos (decide_eq_true hl)]
  · have hlen:=LQ 38 s
    have hf:=PP (N:=1099511627776) (Cm 38 s) []
    rw[if_neg (by simpa using hl),AI9 s (by omega) (by omega),Option.bind_some,AJM s (by omega) (by omega),Option.bind_some,AAF _ (by unfold AAy;simp only[List.length_nil]at hf;omega),Option.bind_some]
end
end Go.VM
