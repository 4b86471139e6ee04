import Derived.Test.YtooeobhihpkicaaGreatDoorL3
set_option linter.unusedVariables false
set_option linter.unusedSimpArgs false
namespace Go.VM
section
variable{N:Nat}
theorem Xl: ∀(l:List UInt8) (c:UInt8),Go.Lib.indexByte l c=if l.contains c=true then(((l.takeWhile (· !=c)).length:Nat):Int)else-1
  |[],c=>rfl
  | x::l,c=>by
    have ih:=Xl l c
    rw[Go.Lib.indexByte,List.contains_cons]
    by_cases e:x=c
    · subst e;simp
    · have e1:(c==x)=false:=by simpa using fun h:c=x=>e h.symm
      have e2:(x==c)=false:=by simpa using e
      have e3:(x !=c)=true:=by simpa using e
      rw[e1,e2,Bool.false_or,List.takeWhile_cons,e3]
      simp only[Bool.false_eq_true,if_false,if_true,List.length_cons]
      by_cases k:l.contains c=true
      · rw[if_pos k]at ih
        rw[if_pos k,ih]
        have:(((((l.takeWhile (· !=c)).length:Nat):Int))== -1)=false:=by
          simp only[beq_eq_false_iff_ne,ne_eq];omega
        rw[this];simp
      · rw[if_neg k]at ih
        rw[if_neg k,ih];rfl
theorem AAA{α:Type} (p:α→Bool) (l:List α):l.drop (l.takeWhile p).length=l.dropWhile p:=by
  have:=List.takeWhile_append_dropWhile (p:=p) (l:=l)
  conv=>lhs;rw[←this]
  rw[List.drop_append,List.drop_of_length_le (by rw[this];exact Nat.le_refl _),this]
  simp
def SY (c:UInt8) (l:List UInt8):List UInt8×List UInt8×Bool:=if l.contains c=true then(l.takeWhile (· !=c),(l.dropWhile (· !=c)).drop 1,true)else(l,[],false)
theorem AF9{c:UInt8}: ∀ {l:List UInt8},l.contains c=true→(l.takeWhile (· !=c)).length<l.length
  |[],h=>by cases h
  | x::l,h=>by
    rw[List.takeWhile_cons]
    by_cases e:x=c
    · subst e;simp
    · have e3:(x !=c)=true:=by simpa using e
      rw[List.contains_cons]at h
      have e1:(c==x)=false:=by simpa using fun h:c=x=>e h.symm
      rw[e1,Bool.false_or]at h
      rw[e3]
      have:=AF9 h
      simp only[if_true,List.length_cons];omega
theorem AED (c:UInt8) (l:List UInt8) (hb:l.length≤2^60):strings_Cut N l [c]=some (SY c l):=by
  unfold strings_Cut EQ D8 SY
  have hk: ∀k:Bool→Option Int,(if((([c]:List UInt8).length:Int)==0)=true then k true else k ([c]==l))=k ([c]==l):=fun k=>rfl
  have hI:(AY (fun j1:Bool=>if j1=true then some (0:Int)else if((([c]:List UInt8).length:Int)==1)=true then Option.bind (idx [c] 0) fun x5=>Option.bind (Bt N l (Ae x5)) fun y6=>some y6 else if decide ((([c]:List UInt8).length:Int)≥(l.length:Int))=true then some (-1)else none) fun k2=>if((([c]:List UInt8).length:Int)==0)=true then k2 true else k2 ([c]==l))=some (Go.Lib.indexByte l c):=by
    refine(CY (a:=[c]==l) fun k=>rfl).trans ?_
    by_cases h:([c]==l)=true
    · have:l=[c]:=by have:=beq_iff_eq.1 h;exact this.symm
      subst this
      simp[Go.Lib.indexByte]
    · rw[if_neg h,if_pos (by rfl),show idx [c] 0=some c from rfl,Option.bind_some]
      unfold Bt
      rw[Ko];rfl
  rw[hI,Option.bind_some,Xl]
  by_cases h:l.contains c=true
  · have hlt:=AF9 h
    simp only[h,if_true]
    generalize hn:(l.takeWhile (· !=c)).length=n at *
    have w:wr .i64 ((n:Int)+(([c]:List UInt8).length:Int))=((n+1:Nat):Int):=by rw[A8 (by simp<;>omega)];simp
    rw[if_pos (by simp),show(0:Int)=((0:Nat):Int)from rfl,Fh l 0 n (by omega) (by omega),Option.bind_some,w,Fh l (n+1) l.length (by omega) (by omega),Option.bind_some,Option.bind_some]
    rw[List.drop_zero,Nat.sub_zero,←hn,M8,List.take_of_length_le (by simp),←List.drop_drop,AAA]
  · rw[if_neg h,if_neg h,if_neg (by decide),Option.bind_some]
theorem NW (x c:UInt8):(Ae x==Ae c)=(x==c):=by
  by_cases h:x=c
  · subst h;simp
  · have: ¬x.toNat=c.toNat:=fun e=>h (UInt8.toNat_inj.1 e)
    have h2:(x==c)=false:=by simpa using h
    rw[h2];simp only[Ae,beq_eq_false_iff_ne,ne_eq];omega
theorem Js{α:Type} (x:α) (l:List α):sub (x::l) 1 (((x::l).length:Nat):Int)=some l:=by
  have:=Fh (x::l) 1 (x::l).length (by simp) (Nat.le_refl _)
  rw[show(1:Int)=((1:Nat):Int)from rfl,this]
  simp
theorem Qk (c:UInt8) (k2:List UInt8→Option (List UInt8)): ∀(l:List UInt8) (k:Nat),l.length<k→CW N (Ae c) k2 k l=k2 (l.dropWhile (· ==c))
  |[],k+1,_=>by rw[CW,Ab];rfl
  | x::l,k+1,h=>by
    simp only[List.length_cons]at h
    rw[CW,Ab,if_pos (by simp<;>omega),show idx (x::l) 0=some x from rfl,Option.bind_some,NW,List.dropWhile_cons]
    try dsimp only
    cases x==c
    · rfl
    · rw[if_pos rfl,Js,Option.bind_some,Qk c k2 l k (by omega)];rfl
theorem AEX (c:UInt8) (l:List UInt8) (hc:c.toNat<128) (hN:l.length<N):Dr N l [c]=some (l.dropWhile (· ==c)):=by
  unfold Dr
  refine(CY (a:=l==[]) fun k=>?_).trans ?_
  · cases l==[]<;>rfl
  try dsimp only
  by_cases h:l=[]
  · subst h;rfl
  · rw[if_neg (by simpa using h)]
    have:(Ae c<128):=by simp only[Ae];omega
    refine(CY (a:=true) fun k=>?_).trans ?_
    · rw[if_pos (by rfl),show idx [c] 0=some c from rfl,Option.bind_some,decide_eq_true this]
    try dsimp only
    rw[if_pos rfl,show idx [c] 0=some c from rfl,Option.bind_some]
    unfold strings_trimLeftByte
    rw[Ab,Qk c _ l N hN];rfl
def Iw (p:UInt8→Bool) (l:List UInt8):List UInt8:=(l.reverse.dropWhile p).reverse
theorem NA (p:UInt8→Bool) (l:List UInt8) (x:UInt8):Iw p (l++[x])=if p x=true then Iw p l else l++[x]:=by
  unfold Iw
  rw[List.reverse_append,List.reverse_cons,List.reverse_nil,List.nil_append,List.singleton_append,List.dropWhile_cons]
  split<;>simp
theorem Qm (p:UInt8→Bool) (l:List UInt8):(Iw p l).length≤l.length:=by
  unfold Iw
  have:=(List.dropWhile_sublist p (l:=l.reverse)).length_le
  simpa using this
theorem Wu{α:Type} (l:List α) (x:α) (hb:l.length≤2^60):sub (l++[x]) 0 (wr .i64 ((((l++[x]).length:Nat):Int)-1))=some l:=by
  rw[A8 (by simp<;>omega),show(((l++[x]).length:Nat):Int)-1=(l.length:Int) by simp,show(0:Int)=((0:Nat):Int)from rfl,Fh _ 0 l.length (by omega) (by simp)]
  simp
theorem Y4{α:Type} (l:List α) (x:α) (hb:l.length≤2^60):idx (l++[x]) (wr .i64 ((((l++[x]).length:Nat):Int)-1))=some x:=by
  rw[A8 (by simp<;>omega),show(((l++[x]).length:Nat):Int)-1=(l.length:Int) by simp,Mc]
  simp
theorem QM (c:UInt8) (k2:List UInt8→Option (List UInt8)): ∀(n:Nat) (l:List UInt8),l.length=n→n≤2^60→ ∀k:Nat,n<k→CK N (Ae c) k2 k l=k2 (Iw (· ==c) l)
  | 0,l,hl,hb,k+1,_=>by
    have:l=[]:=List.length_eq_zero_iff.1 hl
    subst this
    rw[CK,Ab];rfl
  | n+1,l,hl,hb,k+1,h=>by
    obtain⟨l',x,rfl⟩: ∃l' x,l=l'++[x]:=by
      have hne:l≠ []:=fun e=>by subst e;simp at hl
      exact⟨l.dropLast,l.getLast hne,(List.dropLast_concat_getLast hne).symm⟩
    have hl':l'.length=n:=by simpa using hl
    rw[CK,Ab,if_pos (by simp<;>omega),Y4 l' x (by omega),Option.bind_some,NW,NA]
    try dsimp only
    cases x==c
    · rfl
    · rw[if_pos rfl,if_pos rfl,Wu l' x (by omega),Option.bind_some,QM c k2 n l' hl' (by omega) k (by omega)]
theorem AGb (c:UInt8) (l:List UInt8) (hc:c.toNat<128) (hb:l.length≤2^60) (hN:l.length<N):Fb N l [c]=some (Iw (· ==c) l):=by
  unfold Fb
  refine(CY (a:=l==[]) fun k=>?_).trans ?_
  · cases l==[]<;>rfl
  try dsimp only
  by_cases h:l=[]
  · subst h;rfl
  · rw[if_neg (by simpa using h)]
    have:(Ae c<128):=by simp only[Ae];omega
    refine(CY (a:=true) fun k=>?_).trans ?_
    · rw[if_pos (by rfl),show idx [c] 0=some c from rfl,Option.bind_some,decide_eq_true this]
    try dsimp only
    rw[if_pos rfl,show idx [c] 0=some c from rfl,Option.bind_some]
    unfold strings_trimRightByte
    rw[Ab,QM c _ _ l rfl hb N hN];rfl
def XW (as:List Bool) (set:List UInt8):Prop:=as.length=256∧ ∀c:UInt8,as[c.toNat]?=some (set.contains c)
theorem Y3 (k2:List Bool→Option (List Bool×Bool)) (done:List UInt8): ∀(l:List UInt8) (done:List UInt8) (bn:List Bool),(∀c∈l,c.toNat<128)→XW bn done→ ∃as,Bp N k2 l bn=k2 as∧XW as (done++l)
  |[],done,bn,hl,hs=>⟨bn,by rw[Bp],by simpa using hs⟩
  | x::l,done,bn,hl,hs=>by
    have hx:=hl x (by simp)
    have c1: ¬Ae x≥128:=by simp only[Ae];omega
    obtain⟨as,h1,h2⟩:=Y3 k2 done l (done++[x]) (bn.set x.toNat true) (fun c hc=>hl c (by simp[hc])) ⟨by simp[hs.1],fun c=>by
      rw[List.getElem?_set]
      by_cases e:x.toNat=c.toNat
      · have:x=c:=UInt8.toNat_inj.1 e
        subst this
        rw[if_pos rfl,if_pos (by rw[hs.1];exact x.toNat_lt)]
        simp
      · rw[if_neg e,hs.2 c]
        have: ¬c=x:=fun h=>e (by rw[h])
        simp[this]⟩
    refine⟨as,?_,by simpa using h2⟩
    rw[Bp,if_neg (by simpa using c1),AU (by simp only[Ae];omega),AU (by rw[hs.1];simp only[Ae,Int.toNat_natCast];omega)]
    exact h1
theorem AEq (set:List UInt8) (hl: ∀c∈set,c.toNat<128) (hb:set.length≤1000): ∃as,strings_makeASCIISet N set=some (as,true)∧XW as set:=by
  unfold strings_makeASCIISet
  rw[Ab,AU (by unfold BD;omega)]
  obtain⟨as,h1,h2⟩:=Y3 (N:=N) (fun j1=>grd (j1.length=256) (some (j1,true))) [] set [] (Uw 256) hl ⟨Qz,fun c=>by
    have:=c.toNat_lt
    rw[Uw,List.getElem?_replicate,if_pos (by omega)];rfl⟩
  exact⟨as,by rw[h1,AU h2.1],h2⟩
theorem ZG{as:List Bool}{set:List UInt8} (h:XW as set) (c:UInt8):Cq N as (Ae c)=some (set.contains c,as):=by
  have:=c.toNat_lt
  unfold Cq
  rw[AU (by simp only[Ae];omega),H9,Mc,h.2 c];rfl
theorem Qe (k2:List UInt8×List Bool→Option (List UInt8×List Bool)){as:List Bool}{set:List UInt8} (hs:XW as set): ∀(l:List UInt8) (k:Nat),l.length<k→CJ N k2 k l as=k2 (l.dropWhile set.contains,as)
  |[],k+1,_=>by rw[CJ];rfl
  | x::l,k+1,h=>by
    simp only[List.length_cons]at h
    rw[CJ,if_pos (by simp<;>omega),show idx (x::l) 0=some x from rfl,Option.bind_some,ZG hs,Option.bind_some,List.dropWhile_cons]
    try dsimp only
    cases set.contains x
    · rfl
    · rw[if_pos rfl,Js,Option.bind_some,Qe k2 hs l k (by omega)];rfl
theorem ADw (l set:List UInt8) (h2:2≤set.length) (hs:set.length≤1000) (hl: ∀c∈set,c.toNat<128) (hN:l.length<N):Dr N l set=some (l.dropWhile set.contains):=by
  unfold Dr
  have hne:set≠ []:=fun e=>by subst e;simp at h2
  refine(CY (a:=l==[]) fun k=>?_).trans ?_
  · have:(set==[])=false:=by simpa using hne
    rw[this]
    cases l==[]<;>rfl
  try dsimp only
  by_cases h:l=[]
  · subst h;rfl
  · rw[if_neg (by simpa using h)]
    refine(CY (a:=false) fun k=>?_).trans ?_
    · rw[if_neg (by simp<;>omega)]
    try dsimp only
    obtain⟨as,e1,e2⟩:=AEq (N:=N) set hl hs
    rw[if_neg (by decide),e1,Option.bind_some,AU Qz,AU e2.1,if_pos rfl]
    unfold strings_trimLeftASCII
    rw[Ab,Qe _ e2 l N hN];rfl
theorem AIc (c:UInt8) (l:List UInt8):strings_HasPrefix N l [c]=some (Dq [c] l):=by
  unfold strings_HasPrefix DN
  cases l with
  |nil=>rfl
  | cons x l=>
    rw[if_pos (by simp<;>omega),show sub (x::l) 0 ((([c]:List UInt8).length:Nat):Int)=some [x] by
      rw[show(0:Int)=((0:Nat):Int)from rfl,Fh _ 0 _ (by omega) (by simp)];rfl,Option.bind_some,Option.bind_some]
    unfold Dq
    by_cases h:x=c
    · subst h;simp
    · have h': ¬c=x:=fun e=>h e.symm
      simp[h]
def AHx (n:Nat):Nat:=if 65≤n∧n≤90 then n+32 else n
def Kn (c:UInt8):UInt8:=UInt8.ofNat (AHx c.toNat)
theorem Yg (l:List UInt8) (hb:l.length≤2^60) (k2:List Int→Option (List UInt8)): ∀(t pre:List UInt8),l=pre++t→Db N l k2 t (pre.length:Int) (List.map Ae (pre.map Kn)++List.map Ae t)=k2 (List.map Ae (l.map Kn))
  |[],pre,h=>by rw[Db,h];simp
  | c::t,pre,h=>by
    have hlen:pre.length<l.length:=by rw[h];simp
    have hc:=c.toNat_lt
    rw[Db]
    refine(CY (a:=List.map Ae (pre.map Kn)++(Ae (Kn c)::List.map Ae t)) fun k7=>?_).trans ?_
    · rw [AU (by omega),List.map_cons]
      have hi:idx (List.map Ae (pre.map Kn)++Ae c::List.map Ae t) (pre.length:Int)=some (Ae c):=by
        have:=UY (List.map Ae (pre.map Kn)) (List.map Ae t) (Ae c)
        simpa using this
      rw[hi,Option.bind_some]
      refine(CY (a:=decide (65≤c.toNat∧c.toNat≤90)) fun k12=>?_).trans ?_
      · by_cases h1:65≤c.toNat
        · have:(65:Int)≤Ae c:=by simp only[Ae];omega
          rw[if_pos (decide_eq_true this)]
          congr 1
          simp only[Ae,h1,true_and]
          congr 1;simp only[eq_iff_iff];omega
        · have: ¬(65:Int)≤Ae c:=by simp only[Ae];omega
          rw[if_neg (by simpa using this),decide_eq_false (fun h=>h1 h.1)]
      try dsimp only
      by_cases h1:65≤c.toNat∧c.toNat≤90
      · rw[if_pos (decide_eq_true h1),AU (by simp<;>omega)]
        have e:Kn c=UInt8.ofNat (c.toNat+32):=by unfold Kn AHx;rw[if_pos h1]
        have e2:Ae (Kn c)=wr .u8 (Ae c+32):=by
          rw[e,AJE (by simp only[Ae];omega)]
          simp only[Ae]
          rw[toNat_ofNat (by omega)];simp
        rw[←e2]
        congr 1
        simp
      · rw[if_neg (by simpa using h1)]
        have e:Kn c=c:=by unfold Kn AHx;rw[if_neg h1];simp
        rw[e]
    · try dsimp only
      have:=Yg l hb k2 t (pre++[c]) (by rw[h];simp)
      rw[←Kk]at this
      rw[←this]
      simp
theorem lower_eq (l:List UInt8) (hb:l.length≤2^60):JK N l=some (l.map Kn):=by
  unfold JK
  rw[Ab,AU (by unfold BD;omega)]
  have:=Yg (N:=N) l hb (fun j1=>grd (l.length≤j1.length∧BD l.length) (some (List.map Fz (List.take l.length j1)))) l [] rfl
  simp only[List.map_nil,List.nil_append,List.length_nil]at this
  rw[show(0:Int)=((0:Nat):Int)from rfl,this,AU (by unfold BD;simp;omega),List.take_of_length_le (by simp)]
  congr 1
  induction l with
  |nil=>rfl
  |cons c l ih=>simp[Ko]
end
end Go.VM
namespace Go.VM
section
variable{N:Nat}
theorem PN: ∀l:List UInt8,List.map Fz (List.map Ae l)=l
  |[]=>rfl
  |c::l=>by rw[List.map_cons,List.map_cons,Ko,PN l]
def U9:Nat→Nat→List UInt8→List UInt8
  |0,_,acc=>acc
  |k+1,n,acc=>if n / 10=0 then UInt8.ofNat (48+n % 10)::acc else U9 k (n / 10) (UInt8.ofNat (48+n % 10)::acc)
def fmtS (n:Nat):List UInt8:=U9 20 n []
theorem WP: ∀(k n:Nat) (acc:List UInt8),(U9 k n acc).length≤acc.length+k
  |0,n,acc=>by simp[U9]
  | k+1,n,acc=>by
    rw[U9]
    split
    · simp<;>omega
    · have:=WP k (n / 10) (UInt8.ofNat (48+n % 10)::acc)
      simp only[List.length_cons]at this;omega
theorem YW (n:Nat):(fmtS n).length≤20:=by have:=WP 20 n [];simpa[fmtS]using this
theorem AJq (n:Nat):wr .u64 ((n:Int).tdiv 10)=if n<2^64 then((n / 10:Nat):Int)else wr .u64 ((n:Int).tdiv 10):=by
  split
  · rw[Int.tdiv_eq_ediv_of_nonneg (by omega),MP (by omega)];simp
  · rfl
theorem AJD{n:Nat} (h:n<2^64):wr .u64 ((n:Int).tdiv 10)=((n / 10:Nat):Int):=by rw[AJq,if_pos h]
theorem AI7{n:Nat}:wr .u64 (48+(n:Int).tmod 10)=((48+n % 10:Nat):Int):=by
  rw[Int.tmod_eq_emod_of_nonneg (by omega),MP (by omega)];simp
theorem NS: ∀(k n:Nat) (acc:List UInt8),n<10^k→n<2^64→acc.length+k≤1000→ ∀m,k≤m→0<k→Eh N m (n:Int) acc=some (U9 k n acc)
  |0,n,acc,h,h2,ha,m,hm,hk=>by omega
  | k+1,n,acc,h,h2,ha,m+1,hm,hk=>by
    rw[Eh,AJD h2,AI7,U9]
    rw[AU (by unfold BD;simp<;>omega)]
    have e:(List.map Fz [wr .u8 ((48+n % 10:Nat):Int)]++acc)=UInt8.ofNat (48+n % 10)::acc:=by
      rw[NB,Nat.mod_eq_of_lt (show 48+n % 10<256 by omega)];rfl
    rw[e]
    by_cases c:n / 10=0
    · rw[if_pos (by rw[c];rfl),if_pos c]
    · have c': ¬((((n / 10:Nat):Int))==0)=true:=by simp<;>omega
      rw[if_neg c',if_neg c]
      have hk2:0<k:=by
        cases k with
        |zero=>simp at h;omega
        |succ=>omega
      exact NS k (n / 10) _ (by rw[Nat.pow_succ]at h;omega) (by omega) (by simp<;>omega) m (by omega) hk2
theorem QL (n:Nat) (h:n<2^64) (hN:20≤N):Ht N (n:Int)=some (fmtS n):=by
  unfold Ht fmtS
  exact NS 20 n [] (by omega) h (by simp) N hN (by omega)
theorem Wy (a:Nat) (x:Int) (acc:List Int):(List.replicate (a+1) 0++acc).set a x=List.replicate a 0++x::acc:=by
  rw[List.replicate_succ',List.append_assoc]
  simp
theorem NT (k2:Int×Int×List Int→Option (List UInt8)) (R:List UInt8→Option (List UInt8)) (hk: ∀(n a:Nat) (acc:List UInt8),n<10→a≤19→acc.length+a=19→k2 ((n:Int),(a:Int),List.replicate (a+1) 0++acc.map Ae)=R (UInt8.ofNat (48+n)::acc)):
    ∀(j n a:Nat) (acc:List UInt8),n<10^(j+1)→n<2^64→j≤a→a≤19→acc.length+a=19→ ∀m,j<m→EL N k2 m (n:Int) (a:Int) (List.replicate (a+1) 0++acc.map Ae)=R (U9 (j+1) n acc)
  |j,n,a,acc,h,h2,hj,ha,hl,0,hm=>by omega
  | j,n,a,acc,h,h2,hj,ha,hl,m+1,hm=>by
    rw[EL,U9]
    by_cases c:n / 10=0
    · have c': ¬(n:Int)≥10:=by omega
      rw[if_neg (by simpa using c'),if_pos c,Nat.mod_eq_of_lt (by omega)]
      exact hk n a acc (by omega) ha hl
    · have c':(n:Int)≥10:=by omega
      rw[if_pos (decide_eq_true c'),if_neg c]
      obtain⟨j,rfl⟩: ∃i,j=i+1:=⟨j-1,by
        cases j with
        |zero=>simp at h;omega
        |succ=>omega⟩
      obtain⟨a,rfl⟩: ∃i,a=i+1:=⟨a-1,by omega⟩
      rw[AU (by omega),AU (by simp<;>omega),AJD h2,AI7,NB,Nat.mod_eq_of_lt (show 48+n % 10<256 by omega),A8 (by omega)]
      rw[show((a+1:Nat):Int)-1=(a:Int) by simp,Int.toNat_natCast,Wy]
      have e:List.replicate (a+1) 0++((48+n % 10:Nat):Int)::List.map Ae acc=List.replicate (a+1) 0++List.map Ae (UInt8.ofNat (48+n % 10)::acc):=by
        rw[List.map_cons,H9,toNat_ofNat (by omega)]
      rw[e]
      exact NT k2 R hk j (n / 10) a _ (by rw[Nat.pow_succ]at h;omega) (by omega) (by omega) (by omega) (by simp<;>omega) m (by omega)
theorem Qo (n:Nat) (h:n<2^64) (hN:20≤N):Gj N (n:Int)=some (fmtS n):=by
  unfold Gj fmtS
  rw[Ab]
  refine NT (N:=N) _ some (fun n a acc hn ha hl=>?_) 19 n 19 [] (by omega) h (by omega) (by omega) rfl N (by omega)
  have w:wr .u8 (wr .u64 (48+(n:Int)))=((48+n:Nat):Int):=by
    rw[MP (by omega),show(48:Int)+(n:Int)=((48+n:Nat):Int) by simp,NB,Nat.mod_eq_of_lt (by omega)]
  simp only[Int.toNat_natCast,w]
  rw[Wy]
  rw[AU (by omega),AU (by simp<;>omega),AU (by omega),AU (by unfold BD;simp<;>omega)]
  congr 1
  rw[List.drop_append,List.drop_of_length_le (by simp),List.length_replicate,Nat.sub_self,List.drop_zero,List.nil_append,List.take_of_length_le (by simp<;>omega),List.map_cons,PN]
  rfl
end
end Go.VM
namespace Go.VM
structure NumP (s sg W F FR P EX:List UInt8):Prop where
  eq:s=sg++(W++(FR++EX))
  sg:sg=[]∨sg=[45]
  Wd:W.all Ep=true
  Wn:W≠ []
  fr:(FR=[]∧F=[])∨FR=46::F
  Fd:F.all Ep=true
  ex:(EX=[]∧P=[])∨EX=101::P∨EX=69::P
  pw:P=[]∨ ∃sn D,P=sn++D∧(sn=[]∨sn=[43]∨sn=[45])∧D≠ []∧D.all Ep=true
theorem QB (t:List UInt8):(t.take (FO t)).all Ep=true:=by
  unfold FO
  rw[M8]
  induction t with
  |nil=>rfl
  | cons c t ih=>
    rw[List.takeWhile_cons]
    cases h:Ep c
    · rfl
    · simp only[if_true,List.all_cons,h,Bool.true_and];exact ih
theorem QQ{k:UInt8}{t:List UInt8} (h:Dq [k] t=true): ∃r,t=k::r:=by
  cases t with
  |nil=>cases h
  | cons c r=>
    have:c=k:=by simpa[Dq]using h
    exact⟨r,by rw[this]⟩
theorem YD{a b:UInt8}{t:List UInt8} (h:Dq [a,b] t=true): ∃r,t=a::r∨t=b::r:=by
  cases t with
  |nil=>cases h
  | cons c r=>
    have:c=a∨c=b:=by simpa[Dq]using h
    rcases this with rfl|rfl
    · exact⟨r,.inl rfl⟩
    · exact⟨r,.inr rfl⟩
theorem ABp (t:List UInt8):t.take (A9 t)=[]∨t.take (A9 t)=[45]:=by
  unfold A9
  by_cases h:Dq [45] t=true
  · rw[if_pos h]
    obtain⟨r,rfl⟩:=QQ h
    exact .inr rfl
  · rw[if_neg h];exact .inl (by simp)
theorem AGP (t:List UInt8) (h:Dk t≠0):(t.take (Dk t)).all Ep=true∧t.take (Dk t)≠ []:=by
  have hle:=P9 t
  refine⟨?_,fun e=>?_⟩
  · unfold Dk
    by_cases h:Dq [48] t=true
    · rw[if_pos h]
      obtain⟨r,rfl⟩:=QQ h
      rfl
    · rw[if_neg h];exact QB t
  · have:=congrArg List.length e
    rw[List.length_take,List.length_nil]at this
    omega
theorem ADp (t:List UInt8): ∃F,((t.take (FQ t)=[]∧F=[])∨t.take (FQ t)=46::F)∧F.all Ep=true:=by
  unfold FQ
  by_cases h:Dq [46] t=true∧0<FO (t.drop 1)
  · rw[if_pos h]
    obtain⟨r,rfl⟩:=QQ h.1
    refine⟨r.take (FO r),.inr ?_,QB r⟩
    rw[Nat.add_comm];rfl
  · rw[if_neg h];exact⟨[],.inl ⟨by simp,rfl⟩,rfl⟩
theorem AGk (t:List UInt8): ∃P,((t.take (KP t)=[]∧P=[])∨t.take (KP t)=101::P∨t.take (KP t)=69::P)∧(P=[]∨ ∃sn D,P=sn++D∧(sn=[]∨sn=[43]∨sn=[45])∧D≠ []∧D.all Ep=true):=by
  unfold KP
  by_cases h:Dq [101,69] t=true∧0<FO (t.drop (1+JW t))
  · rw [if_pos h]
    have key: ∀(c:UInt8) (r:List UInt8),t=c::r→ ∃P,t.take (1+JW t+FO (t.drop (1+JW t)))=c::P∧(P=[]∨ ∃sn D,P=sn++D∧(sn=[]∨sn=[43]∨sn=[45])∧D≠ []∧D.all Ep=true):=by
      rintro c r rfl
      have hr:=h.2
      have hes:JW (c::r)=if Dq [43,45] r=true then 1 else 0:=rfl
      by_cases k:Dq [43,45] r=true
      · rw[if_pos k]at hes
        rw[hes]at hr⊢
        obtain⟨d,q,rfl,hd⟩: ∃d q,r=d::q∧(d=43∨d=45):=by
          obtain⟨q,e|e⟩:=YD k
          · exact⟨_,q,e,.inl rfl⟩
          · exact⟨_,q,e,.inr rfl⟩
        have e:(c::d::q).drop (1+1)=q:=rfl
        rw[e]at hr⊢
        refine⟨d::q.take (FO q),?_,.inr ⟨[d],q.take (FO q),rfl,?_,fun e=>?_,QB q⟩⟩
        · rw[show 1+1+FO q=FO q+1+1 by omega];rfl
        · rcases hd with rfl|rfl
          · exact .inr (.inl rfl)
          · exact .inr (.inr rfl)
        · have:=congrArg List.length e
          have h2:=LV q
          rw[List.length_take,List.length_nil]at this;omega
      · rw[if_neg k]at hes
        rw[hes]at hr⊢
        have e:(c::r).drop (1+0)=r:=rfl
        rw[e]at hr⊢
        refine⟨r.take (FO r),?_,.inr ⟨[],r.take (FO r),rfl,.inl rfl,fun e=>?_,QB r⟩⟩
        · rw[show 1+0+FO r=FO r+1 by omega];rfl
        · have:=congrArg List.length e
          have h2:=LV r
          rw[List.length_take,List.length_nil]at this;omega
    obtain⟨r,e|e⟩:=YD h.1
    · obtain⟨P,h1,h2⟩:=key _ _ e
      exact⟨P,.inr (.inl h1),h2⟩
    · obtain⟨P,h1,h2⟩:=key _ _ e
      exact⟨P,.inr (.inr h1),h2⟩
  · rw[if_neg h];exact⟨[],.inl ⟨by simp,rfl⟩,.inl rfl⟩
theorem AJK (s:List UInt8) (a b c:Nat):s=s.take a++((s.drop a).take b++((s.drop (a+b)).take c++s.drop (a+b+c))):=by
  rw[show s.drop (a+b+c)=(s.drop (a+b)).drop c by rw[List.drop_drop],List.take_append_drop,show s.drop (a+b)=(s.drop a).drop b by rw[List.drop_drop],List.take_append_drop,List.take_append_drop]
theorem ADd{s:List UInt8} (h0:s≠ []) (h:GI s=s.length): ∃sg W F FR P EX,NumP s sg W F FR P EX:=by
  have hpos:s.length≠0:=fun e=>h0 (List.length_eq_zero_iff.1 e)
  have hz:Dk (s.drop (A9 s))≠0:=by
    intro hz
    unfold GI at h;rw[if_pos hz]at h;omega
  have hnum:GI s=A9 s+Dk (s.drop (A9 s))+FQ (s.drop (A9 s+Dk (s.drop (A9 s))))+KP (s.drop (A9 s+Dk (s.drop (A9 s))+FQ (s.drop (A9 s+Dk (s.drop (A9 s)))))):=by
    unfold GI;rw[if_neg hz]
  obtain⟨w1,w2⟩:=AGP _ hz
  obtain⟨F,f1,f2⟩:=ADp (s.drop (A9 s+Dk (s.drop (A9 s))))
  obtain⟨P,e1,e2⟩:=AGk (s.drop (A9 s+Dk (s.drop (A9 s))+FQ (s.drop (A9 s+Dk (s.drop (A9 s))))))
  refine⟨_,_,F,_,P,_,⟨?_,ABp s,w1,w2,f1,f2,e1,e2⟩⟩
  rw[List.take_of_length_le (l:=s.drop (A9 s+Dk (s.drop (A9 s))+FQ (s.drop (A9 s+Dk (s.drop (A9 s)))))) (by rw[List.length_drop];omega)]
  exact AJK _ _ _ _
theorem AJ3{c k:UInt8} (h:Ep c=true) (hk:Ep k=false):c≠k:=fun e=>by subst e;rw[h]at hk;cases hk
theorem QA{k:UInt8} (hk:Ep k=false): ∀ {l:List UInt8},l.all Ep=true→l.contains k=false
  |[],_=>rfl
  | c::l,h=>by
    simp only[List.all_cons,Bool.and_eq_true]at h
    rw[List.contains_cons,QA hk h.2,Bool.or_false]
    have:=AJ3 h.1 hk
    simpa using fun e:k=c=>this e.symm
end Go.VM
namespace Go.VM
section
variable{N:Nat}
def IM:Nat→List UInt8→Nat
  |n,[]=>n
  |n,c::l=>IM (n * 10+Jq c.toNat) l
theorem Nz: ∀(l:List UInt8) (n:Nat),n≤IM n l
  |[],n=>by rw[IM];exact Nat.le_refl _
  | c::l,n=>by
    have:=Nz l (n * 10+Jq c.toNat)
    rw[IM];omega
theorem LH{c:UInt8} (h:Ep c=true):48≤c.toNat∧c.toNat≤57:=by
  simpa[Ep]using h
theorem P7{c:UInt8} (h:Ep c=true):AJS c=true∧Jq c.toNat=c.toNat-48:=by
  have:=LH h
  refine⟨?_,?_⟩
  · simp only[AJS,AGI,Bool.or_eq_true,Bool.and_eq_true,decide_eq_true_eq];omega
  · unfold Jq;rw[if_pos this.2]
theorem AJA (k2:Unit→Option (Int×Int)): ∀l:List UInt8,BJ N k2 l=if l.all Ep=true then k2 ()else some (0,1)
  |[]=>by rw[BJ];rfl
  | c::l=>by
    rw[BJ,ABY,Option.bind_some,AJA k2 l]
    cases h:Ep c<;>simp[h]
theorem AJC{m:Nat} (hm:m≤2^59) (k9:Int→Option (Int×Int)): ∀(l:List UInt8) (n:Nat),l.all Ep=true→n≤m→BK N 10 (m:Int) k9 l (n:Int)=if IM n l≤m then k9 ((IM n l:Nat):Int)else some (0,4)
  |[],n,_,hn=>by rw[BK,IM,if_pos hn]
  | c::l,n,h,hn=>by
    simp only[List.all_cons,Bool.and_eq_true]at h
    have hd:Jq c.toNat≤9:=by have:=LH h.1;rw[(P7 h.1).2];omega
    obtain⟨hx,hv⟩:=P7 h.1
    rw[BK,AGv c hx,Option.bind_some,Ab,AU (by decide)]
    have w1:wr .u64 ((n:Int) * 10)=((n * 10:Nat):Int):=by rw[MP (by omega)];simp
    have w2:wr .u64 (((n * 10:Nat):Int)+((Jq c.toNat:Nat):Int))=((n * 10+Jq c.toNat:Nat):Int):=by rw[MP (by omega)];simp
    have w3:wr .u64 (18446744073709551615-((Jq c.toNat:Nat):Int))=18446744073709551615-((Jq c.toNat:Nat):Int):=MP (by omega)
    rw[w1,w2,w3,Int.tdiv_eq_ediv_of_nonneg (by omega),MP (by omega)]
    have c1: ¬((n:Int)>(18446744073709551615-((Jq c.toNat:Nat):Int)) / 10):=by omega
    rw[if_neg (by simpa using c1),IM]
    by_cases c2:n * 10+Jq c.toNat≤m
    · have c3: ¬(((n * 10+Jq c.toNat:Nat):Int)>(m:Int)):=by omega
      rw[decide_eq_false c3]
      simp only[Bool.false_eq_true,if_false]
      exact AJC hm k9 l _ h.2 c2
    · have c3:(((n * 10+Jq c.toNat:Nat):Int)>(m:Int)):=by omega
      have:=Nz l (n * 10+Jq c.toNat)
      rw[decide_eq_true c3,if_neg (by omega)];rfl
theorem ADB{m:Nat} (hm:m≤2^59) (l:List UInt8) (hb:l.length≤2^60):Im N l (m:Int)=some (if l=[]then(0,3)else if l.all Ep=true then(if IM 0 l≤m then(((IM 0 l:Nat):Int),0)else(0,4))else(0,1)):=by
  unfold Im Dv
  by_cases h:l=[]
  · subst h;rfl
  · rw[if_neg (by simpa using h),if_neg h,Ab,AU (by unfold BD;omega),AJA]
    by_cases h1:l.all Ep=true
    · rw[if_pos h1,if_pos h1,Ab,AU (by unfold BD;omega),show(0:Int)=((0:Nat):Int)from rfl,AJC hm _ l 0 h1 (by omega)]
      split<;>rfl
    · rw[if_neg h1,if_neg h1];rfl
def Jz (B:Nat) (P:List UInt8):Int:=if Dq [45] P=true then-((min (IM 0 (P.dropWhile ([43,45]:List UInt8).contains)) B:Nat):Int)else((min (IM 0 (P.dropWhile ([43,45]:List UInt8).contains)) B:Nat):Int)
def ABT (P:List UInt8):Prop:=P=[]∨ ∃sn D,P=sn++D∧(sn=[]∨sn=[43]∨sn=[45])∧D≠ []∧D.all Ep=true
theorem ABg{c:UInt8} (h:Ep c=true):([43,45]:List UInt8).contains c=false:=by
  have:=Jn (f:=fun n=>if(decide (48≤n)&&decide (n≤57))=true then([43,45]:List UInt8).contains (UInt8.ofNat n)else false) (g:=fun _=>false) (by kernel_rfl) c
  simp only[UInt8.ofNat_toNat,show(decide (48≤c.toNat)&&decide (c.toNat≤57))=true from h,if_true]at this
  exact this
theorem NP{D:List UInt8} (h:D.all Ep=true):D.dropWhile ([43,45]:List UInt8).contains=D:=by
  cases D with
  |nil=>rfl
  | cons c D=>
    simp only[List.all_cons,Bool.and_eq_true]at h
    rw[List.dropWhile_cons,ABg h.1];rfl
theorem Sr{P:List UInt8} (h:ABT P):(P.dropWhile ([43,45]:List UInt8).contains).all Ep=true∧(P.dropWhile ([43,45]:List UInt8).contains=[]→P=[]):=by
  rcases h with rfl|⟨sn,D,rfl,hs,hD,hd⟩
  · exact⟨rfl,fun _=>rfl⟩
  · have:(sn++D).dropWhile ([43,45]:List UInt8).contains=D:=by
      rcases hs with rfl|rfl|rfl
      · exact NP hd
      · show(43::D).dropWhile _=D
        rw[List.dropWhile_cons,show([43,45]:List UInt8).contains 43=true from rfl,if_pos rfl];exact NP hd
      · show(45::D).dropWhile _=D
        rw[List.dropWhile_cons,show([43,45]:List UInt8).contains 45=true from rfl,if_pos rfl];exact NP hd
    rw[this]
    exact⟨hd,fun e=>absurd e hD⟩
theorem AIf{P:List UInt8} (h:ABT P) (hb:P.length≤2^60) (hN:P.length<N):HZ N P=some (Jz (2^40) P):=by
  obtain⟨h1,h2⟩:=Sr h
  unfold HZ
  rw[ADw P [43,45] (by simp) (by simp) (by decide) hN,Option.bind_some]
  have hl:=(List.dropWhile_sublist ([43,45]:List UInt8).contains (l:=P)).length_le
  unfold Jz
  generalize hD:P.dropWhile ([43,45]:List UInt8).contains=D at *
  rw[show(1099511627776:Int)=((2^40:Nat):Int)from rfl,ADB (by decide) D (by omega),Option.bind_some]
  by_cases he:D=[]
  · rw[if_pos he]
    have hP:=h2 he
    subst hP;subst he
    rfl
  · rw[if_neg he,if_pos h1]
    have key: ∀v:Nat,v≤2^40→(Option.bind (strings_HasPrefix N P [45]) fun y9=>if y9=true then some (wr .i64 (0-wr .i64 (v:Int)))else some (wr .i64 (v:Int)))=some (if Dq [45] P=true then-(v:Int)else(v:Int)):=by
      intro v hv
      rw[AIc,Option.bind_some,A8 (n:=(v:Int)) (by omega),A8 (n:=0-(v:Int)) (by omega)]
      split<;>simp
    rw[Ab]
    by_cases hv:IM 0 D≤2^40
    · rw[if_pos hv,Nat.min_eq_left hv]
      exact key _ hv
    · rw[if_neg hv,Nat.min_eq_right (by omega)]
      exact key _ (Nat.le_refl _)
theorem Og (k19:Int→Option Int): ∀(l:List UInt8) (n:Nat),l.all Ep=true→n≤2^30→Co N k19 l (n:Int)=k19 ((min (IM n l) (2^30):Nat):Int)
  |[],n,_,hn=>by rw[Co,IM,Nat.min_eq_left hn]
  | c::l,n,h,hn=>by
    simp only[List.all_cons,Bool.and_eq_true]at h
    have hd:=LH h.1
    rw[Co,IM]
    have w0:wr .u8 (Ae c-48)=((Jq c.toNat:Nat):Int):=by rw[AJE (by simp only[Ae];omega)];rw[(P7 h.1).2];simp only[Ae];omega
    have hd9:Jq c.toNat≤9:=by rw[(P7 h.1).2];omega
    rw[w0,A8 (n:=(n:Int) * 10) (by omega),A8 (n:=((Jq c.toNat:Nat):Int)) (by omega),A8 (by omega)]
    have e:(n:Int) * 10+((Jq c.toNat:Nat):Int)=((n * 10+Jq c.toNat:Nat):Int):=by simp
    rw[e]
    have hge:=Nz l (n * 10+Jq c.toNat)
    by_cases c1:(1073741824:Int)<((n * 10+Jq c.toNat:Nat):Int)
    · rw[if_pos c1,show(1073741824:Int)=((2^30:Nat):Int)from rfl,Og k19 l (2^30) h.2 (Nat.le_refl _)]
      have:=Nz l (2^30)
      rw[Nat.min_eq_right this,Nat.min_eq_right (by omega)]
    · rw[if_neg c1,Og k19 l _ h.2 (by omega)]
theorem AIN{P:List UInt8} (h:ABT P) (hb:P.length≤2^60):He N P=some (Jz (2^30) P):=by
  obtain⟨h1,h2⟩:=Sr h
  unfold He
  refine(CY (a:=Dq [45] P) fun k2=>?_).trans ?_
  · cases P with
    |nil=>rfl
    |cons c P=>rw[if_neg (by simp),show idx (c::P) 0=some c from rfl,Option.bind_some,AHh];rfl
  try dsimp only
  refine(CY (a:=P.dropWhile ([43,45]:List UInt8).contains) fun k7=>(CY (a:=Dq [43,45] P) fun k11=>?_).trans ?_).trans ?_
  · cases P with
    |nil=>rfl
    | cons c P=>
      show(if(c::P==([]:List UInt8))=true then k11 false else Option.bind (idx (c::P) 0) fun x14=>Option.bind (Gy N (Ae x14) [43,45]) fun y15=>k11 y15)=_
      rw[if_neg (by simp),show idx (c::P) 0=some c from rfl,Option.bind_some,UN _ _ (by decide),Option.bind_some];rfl
  · try dsimp only
    rcases h with rfl|⟨sn,D,rfl,hs,hD,hd⟩
    · rfl
    · have hdd:=NP hd
      rcases hs with rfl|rfl|rfl
      · cases D with
        |nil=>exact absurd rfl hD
        | cons c D=>
          simp only[List.all_cons,Bool.and_eq_true]at hd
          rw[List.nil_append,hdd,if_neg (by show¬([43,45]:List UInt8).contains c=true;rw[ABg hd.1];simp)]
      · have e:([43]++D).dropWhile ([43,45]:List UInt8).contains=D:=by
          show(43::D).dropWhile _=D
          rw[List.dropWhile_cons,show([43,45]:List UInt8).contains 43=true from rfl,if_pos rfl];exact hdd
        rw[e,if_pos (by rfl)]
        exact(congrArg (fun x=>Option.bind x k7) (Js 43 D)).trans rfl
      · have e:([45]++D).dropWhile ([43,45]:List UInt8).contains=D:=by
          show(45::D).dropWhile _=D
          rw[List.dropWhile_cons,show([43,45]:List UInt8).contains 45=true from rfl,if_pos rfl];exact hdd
        rw[e,if_pos (by rfl)]
        exact(congrArg (fun x=>Option.bind x k7) (Js 45 D)).trans rfl
  try dsimp only
  have hl:=(List.dropWhile_sublist ([43,45]:List UInt8).contains (l:=P)).length_le
  unfold Jz
  generalize hD:P.dropWhile ([43,45]:List UInt8).contains=D at *
  rw[Ab,AU (by unfold BD;omega),show(0:Int)=((0:Nat):Int)from rfl,Og _ D 0 h1 (by omega)]
  have:min (IM 0 D) (2^30)≤2^30:=Nat.min_le_right _ _
  rw[A8 (by omega)]
  split<;>simp
def AJf (y:Int):List UInt8:=if y<0 then [101,45]++fmtS (-y).toNat else if y>0 then [101]++fmtS y.toNat else []
def Jv (sg m:List UInt8) (x:Int):List UInt8×Int:=
  let m1:=m.dropWhile (· ==48)
  let sh:=Iw (· ==48) m1
  if sh=[]then([48],0)
  else if sh.length>40∨x+m1.length-sh.length< -400∨x+m1.length-sh.length>400 then([],144)
  else(sg++sh++AJf (x+m1.length-sh.length),0)
theorem Py{y:Int} (h:0≤y) (h2:y≤2^60):wr .u64 y=((y.toNat:Nat):Int):=by rw[MP (by omega)];omega
theorem Uy{l:List UInt8} (h:l.all Ep=true):l.map Kn=l:=by
  induction l with
  |nil=>rfl
  | cons c l ih=>
    simp only[List.all_cons,Bool.and_eq_true]at h
    have:=LH h.1
    rw[List.map_cons,ih h.2]
    congr 1
    unfold Kn AHx;rw[if_neg (by omega)];simp
theorem Tz{c:UInt8}{a b:List UInt8} (h:a.contains c=false):SY c (a++c::b)=(a,b,true):=by
  have h1: ∀a:List UInt8,a.contains c=false→(a++c::b).takeWhile (· !=c)=a∧(a++c::b).dropWhile (· !=c)=c::b:=by
    intro a
    induction a with
    |nil=>intro _;simp
    | cons x a ih=>
      intro h
      rw[List.contains_cons,Bool.or_eq_false_iff]at h
      have hx:(x !=c)=true:=by
        have:c≠x:=by simpa using h.1
        simpa using fun e:x=c=>this e.symm
      obtain⟨i1,i2⟩:=ih h.2
      rw[List.cons_append,List.takeWhile_cons,List.dropWhile_cons,hx,i1,i2]
      exact⟨rfl,rfl⟩
  unfold SY
  rw[if_pos (by simp),(h1 a h).1,(h1 a h).2];rfl
theorem ABM{c:UInt8}{a:List UInt8} (h:a.contains c=false):SY c a=(a,[],false):=by
  unfold SY;rw[if_neg (by rw[h];simp)]
theorem UL{c:UInt8}{a b:List UInt8}:(a++b).contains c=(a.contains c||b.contains c):=by
  simp[List.contains_eq_any_beq,List.any_append]
theorem ABU{P:List UInt8} (h:ABT P):P.map Kn=P:=by
  rcases h with rfl|⟨sn,D,rfl,hs,hD,hd⟩
  · rfl
  · rw[List.map_append,Uy hd]
    rcases hs with rfl|rfl|rfl<;>rfl
section
variable{s sg W F FR P EX:List UInt8}
theorem NumP.len (h:NumP s sg W F FR P EX):s.length=sg.length+(W.length+(FR.length+EX.length))∧F.length≤FR.length∧P.length≤EX.length:=by
  refine⟨by rw[h.eq];simp,?_,?_⟩
  · rcases h.fr with⟨e1,e2⟩|e
    · rw[e2];simp
    · rw[e];simp
  · rcases h.ex with⟨e1,e2⟩|e|e
    · rw[e2];simp
    · rw[e];simp
    · rw[e];simp
theorem NumP.not_e (h:NumP s sg W F FR P EX) (k:UInt8) (hk:Ep k=false) (h46:k≠46):(W++FR).contains k=false:=by
  rw[UL,QA hk h.Wd,Bool.false_or]
  rcases h.fr with⟨e1,e2⟩|e
  · rw[e1];rfl
  · rw[e,List.contains_cons,QA hk h.Fd,Bool.or_false]
    simpa using h46
theorem AHB (h:NumP s sg W F FR P EX) (hn:GI s=s.length) (hb:s.length≤2^48) (hN:s.length+30<N):ES N s=some (Jv sg (W++F) (Jz (2^40) P-F.length)):=by
  obtain⟨l1,l2,l3⟩:=h.len
  have hne:s≠ []:=by
    rw[h.eq]
    have:=h.Wn
    intro e
    have:=List.append_eq_nil_iff.1 e
    have:=List.append_eq_nil_iff.1 this.2
    exact h.Wn this.1
  have hpos:s.length≠0:=fun e=>hne (List.length_eq_zero_iff.1 e)
  unfold ES
  have hp:=RI (N:=N) (l:=s) (t:=s) (i:=0) (by simp) (by omega) (by omega)
  rw[if_neg (by rw[hn];exact hpos)]at hp
  have hp':Ci N (TokenReader.mk s 0)=some (s.take (GI s),true,(⟨s,((0+GI s:Nat):Int)⟩:TokenReader)):=hp
  rw[hp',Option.bind_some]
  refine(CY (a:=false) fun k4=>?_).trans ?_
  · rw[if_pos rfl,hn,List.take_of_length_le (Nat.le_refl _)];simp
  try dsimp only
  rw[if_neg (by decide)]
  have hhead: ∀k7:List UInt8×List UInt8→Option (List UInt8×Int),(Option.bind (idx s 0) fun x11=>if(Ae x11==45)=true then Option.bind (sub s 1 (s.length:Int)) fun x12=>k7 ([45],x12)else k7 ([],s))=k7 (sg,W++(FR++EX)):=by
    intro k7
    rcases h.sg with e|e
    · have hs:s=W++(FR++EX):=by rw[h.eq,e];rfl
      cases hW:W with
      |nil=>exact absurd hW h.Wn
      | cons c W'=>
        have hc:Ep c=true:=by
          have:=h.Wd
          rw[hW,List.all_cons,Bool.and_eq_true]at this
          exact this.1
        have hs2:s=c::(W'++(FR++EX)):=by rw[hs,hW];rfl
        rw[hs2,show idx (c::(W'++(FR++EX))) 0=some c from rfl,Option.bind_some,AHh,NI]
        have:=LH hc
        have: ¬c.toNat=(45:UInt8).toNat:=by show¬c.toNat=45;omega
        rw[if_neg (by simpa using this),e];rfl
    · have hs2:s=45::(W++(FR++EX)):=by rw[h.eq,e];rfl
      rw[hs2,show idx (45::(W++(FR++EX))) 0=some 45 from rfl,Option.bind_some,if_pos (by rfl),Js,Option.bind_some,e]
  refine(CY (a:=(sg,W++(FR++EX))) fun k8=>hhead k8).trans ?_
  try dsimp only
  rw[lower_eq _ (by simp;omega),Option.bind_some]
  have hWF:(W++FR).map Kn=W++FR:=by
    rw[List.map_append,Uy h.Wd]
    rcases h.fr with⟨e1,e2⟩|e
    · rw[e1];rfl
    · rw[e,List.map_cons,Uy h.Fd];rfl
  have hlow:SY 101 ((W++(FR++EX)).map Kn)=(W++FR,P,(SY 101 ((W++(FR++EX)).map Kn)).2.2):=by
    rw[←List.append_assoc,List.map_append,hWF]
    have hc:=h.not_e 101 (by decide) (by decide)
    rcases h.ex with⟨e1,e2⟩|e|e
    · rw[e1,e2,List.map_nil,List.append_nil,ABM hc]
    · rw[e,List.map_cons,ABU h.pw,show Kn 101=101 from rfl,Tz hc]
    · rw[e,List.map_cons,ABU h.pw,show Kn 69=101 from rfl,Tz hc]
  rw[AED 101 _ (by simp;omega),Option.bind_some,hlow]
  try dsimp only
  have hcut2:SY 46 (W++FR)=(W,F,(SY 46 (W++FR)).2.2):=by
    have hc:=QA (k:=46) (by decide) h.Wd
    rcases h.fr with⟨e1,e2⟩|e
    · rw[e1,e2,List.append_nil,ABM hc]
    · rw[e,Tz hc]
  rw[AED 46 _ (by simp;omega),Option.bind_some,hcut2]
  try dsimp only
  rw[AU (by unfold BD;omega),AEX 48 (W++F) (by decide) (by simp;omega),Option.bind_some]
  have hml:=(List.dropWhile_sublist (fun x:UInt8=>x==48) (l:=W++F)).length_le
  rw[List.length_append]at hml
  have htl:=Qm (fun x:UInt8=>x==48) ((W++F).dropWhile (fun x:UInt8=>x==48))
  rw[AGb 48 _ (by decide) (by omega) (by omega),Option.bind_some]
  unfold Jv
  dsimp only
  generalize hm1:(W++F).dropWhile (fun x:UInt8=>x==48)=m1 at *
  generalize hsh:Iw (fun x:UInt8=>x==48) m1=sh at *
  try dsimp only
  by_cases hz:sh=[]
  · rw[if_pos (by simpa using hz),if_pos hz]
  rw[if_neg (by simpa using hz),if_neg hz,AIf h.pw (by omega) (by omega),Option.bind_some]
  have hev: -(2^40:Int)≤Jz (2^40) P∧Jz (2^40) P≤(2^40:Int):=by
    unfold Jz
    have:min (IM 0 (P.dropWhile ([43,45]:List UInt8).contains)) (2^40)≤2^40:=Nat.min_le_right _ _
    split<;>omega
  generalize Jz (2^40) P=x at *
  have hw:wr .i64 (wr .i64 (wr .i64 (x-(F.length:Int))+(m1.length:Int))-(sh.length:Int))=x-(F.length:Int)+(m1.length:Int)-(sh.length:Int):=by
    rw[A8 (n:=x-(F.length:Int)) (by omega),A8 (n:=x-(F.length:Int)+(m1.length:Int)) (by omega),A8 (by omega)]
  rw[hw]
  generalize hy:x-(F.length:Int)+(m1.length:Int)-(sh.length:Int)=y at *
  have hsg:sg.length≤1:=by rcases h.sg with e|e<;>rw[e]<;>simp
  refine(CY (a:=decide (sh.length>40∨y< -400∨y>400)) fun k26=>?_).trans ?_
  · by_cases c1:(sh.length:Int)>40
    · rw[if_pos (decide_eq_true c1),decide_eq_true (.inl (by omega))]
    · rw[if_neg (by simpa using c1)]
      by_cases c2:y< -400
      · rw[if_pos (decide_eq_true c2),decide_eq_true (.inr (.inl c2))]
      · rw[if_neg (by simpa using c2)]
        congr 1
        simp only[eq_iff_iff,decide_eq_decide];omega
  try dsimp only
  by_cases hc:sh.length>40∨y< -400∨y>400
  · rw[if_pos (decide_eq_true hc),if_pos hc]
  rw[if_neg (by simpa using hc),if_neg hc]
  have hc': ¬(sh.length>40)∧ ¬y< -400∧ ¬y>400:=⟨fun h=>hc (.inl h),fun h=>hc (.inr (.inl h)),fun h=>hc (.inr (.inr h))⟩
  have hf:=YW
  unfold AJf
  by_cases c1:y<0
  · rw[if_pos (decide_eq_true c1),if_pos c1,AU (by unfold BD;omega),AU (by unfold BD;simp;omega),A8 (by omega),Py (by omega) (by omega),Qo _ (by omega) (by omega),Option.bind_some]
    have:=hf (0-y).toNat
    have:=hf (-y).toNat
    rw[AU (by unfold BD;simp;omega),show(0-y).toNat=(-y).toNat by omega]
    simp
  · rw[if_neg (by simpa using c1),if_neg c1]
    by_cases c2:y>0
    · have:=hf y.toNat
      rw[if_pos (decide_eq_true c2),if_pos c2,AU (by unfold BD;omega),AU (by unfold BD;simp;omega),Py (by omega) (by omega),Qo _ (by omega) (by omega),Option.bind_some,AU (by unfold BD;simp;omega)]
      simp
    · rw[if_neg (by simpa using c2),if_neg c2,AU (by unfold BD;omega)]
      simp
end
end
end Go.VM
