import Derived.Test.YtooeobhihpkicaaGreatDoorL4
set_option linter.unusedVariables false
set_option linter.unusedSimpArgs false
namespace Go.VM
section
variable{N:Nat}
theorem Zr: ∀(l:List UInt8) (c:UInt8),Go.Lib.indexByte l c=if l.contains c=true then(((l.takeWhile (· !=c)).length:Nat):Int)else-1
  |[],c=>rfl
  | x::l,c=>by
    have ih:=Zr l c
    rw[Go.Lib.indexByte,List.contains_cons]
    by_cases e:x=c
    · subst e;simp
    · have e1:(c==x)=false:=by simpa using fun h:c=x=>e h.symm
      have e2:(x==c)=false:=by simpa using e
      have e3:(x !=c)=true:=by simpa using e
      rw[e1,e2,Bool.false_or,List.takeWhile_cons,e3]
      simp only[Bool.false_eq_true,if_false,if_true,List.length_cons]
      by_cases k:l.contains c=true
      · rw[if_pos k]at ih
        rw[if_pos k,ih]
        have:(((((l.takeWhile (· !=c)).length:Nat):Int))== -1)=false:=by
          simp only[beq_eq_false_iff_ne,ne_eq];omega
        rw[this];simp
      · rw[if_neg k]at ih
        rw[if_neg k,ih];rfl
theorem AAF{α:Type} (p:α→Bool) (l:List α):l.drop (l.takeWhile p).length=l.dropWhile p:=by
  have:=List.takeWhile_append_dropWhile (p:=p) (l:=l)
  conv=>lhs;rw[←this]
  rw[List.drop_append,List.drop_of_length_le (by rw[this];exact Nat.le_refl _),this]
  simp
def Sa (c:UInt8) (l:List UInt8):List UInt8×List UInt8×Bool:=if l.contains c=true then(l.takeWhile (· !=c),(l.dropWhile (· !=c)).drop 1,true)else(l,[],false)
theorem AF7{c:UInt8}: ∀ {l:List UInt8},l.contains c=true→(l.takeWhile (· !=c)).length<l.length
  |[],h=>by cases h
  | x::l,h=>by
    rw[List.takeWhile_cons]
    by_cases e:x=c
    · subst e;simp
    · have e3:(x !=c)=true:=by simpa using e
      rw[List.contains_cons]at h
      have e1:(c==x)=false:=by simpa using fun h:c=x=>e h.symm
      rw[e1,Bool.false_or]at h
      rw[e3]
      have:=AF7 h
      simp only[if_true,List.length_cons];omega
theorem AF5 (c:UInt8) (l:List UInt8) (hb:l.length≤2^60):strings_Cut N l [c]=some (Sa c l):=by
  unfold strings_Cut ER Dy Sa
  have hk: ∀k:Bool→Option Int,(if((([c]:List UInt8).length:Int)==0)=true then k true else k ([c]==l))=k ([c]==l):=fun k=>rfl
  have hI:(Ab (fun j1:Bool=>if j1=true then some (0:Int)else if((([c]:List UInt8).length:Int)==1)=true then Option.bind (idx [c] 0) fun x5=>Option.bind (Bv N l (Am x5)) fun y6=>some y6 else if decide ((([c]:List UInt8).length:Int)≥(l.length:Int))=true then some (-1)else none) fun k2=>if((([c]:List UInt8).length:Int)==0)=true then k2 true else k2 ([c]==l))=some (Go.Lib.indexByte l c):=by
    refine(CO (a:=[c]==l) fun k=>rfl).trans ?_
    by_cases h:([c]==l)=true
    · have:l=[c]:=by have:=beq_iff_eq.1 h;exact this.symm
      subst this
      simp[Go.Lib.indexByte]
    · rw[if_neg h,if_pos (by rfl),show idx [c] 0=some c from rfl,Option.bind_some]
      unfold Bv
      rw[Ki];rfl
  rw[hI,Option.bind_some,Zr]
  by_cases h:l.contains c=true
  · have hlt:=AF7 h
    simp only[h,if_true]
    generalize hn:(l.takeWhile (· !=c)).length=n at *
    have w:wr .i64 ((n:Int)+(([c]:List UInt8).length:Int))=((n+1:Nat):Int):=by rw[Ai (by simp<;>omega)];simp
    rw[if_pos (by simp),show(0:Int)=((0:Nat):Int)from rfl,FE l 0 n (by omega) (by omega),Option.bind_some,w,FE l (n+1) l.length (by omega) (by omega),Option.bind_some,Option.bind_some]
    rw[List.drop_zero,Nat.sub_zero,←hn,M7,List.take_of_length_le (by simp),←List.drop_drop,AAF]
  · rw[if_neg h,if_neg h,if_neg (by decide),Option.bind_some]
theorem Nq (x c:UInt8):(Am x==Am c)=(x==c):=by
  by_cases h:x=c
  · subst h;simp
  · have: ¬x.toNat=c.toNat:=fun e=>h (UInt8.toNat_inj.1 e)
    have h2:(x==c)=false:=by simpa using h
    rw[h2];simp only[Am,beq_eq_false_iff_ne,ne_eq];omega
theorem Jl{α:Type} (x:α) (l:List α):sub (x::l) 1 (((x::l).length:Nat):Int)=some l:=by
  have:=FE (x::l) 1 (x::l).length (by simp) (Nat.le_refl _)
  rw[show(1:Int)=((1:Nat):Int)from rfl,this]
  simp
theorem Q7 (c:UInt8) (k2:List UInt8→Option (List UInt8)): ∀(l:List UInt8) (k:Nat),l.length<k→CX N (Am c) k2 k l=k2 (l.dropWhile (· ==c))
  |[],k+1,_=>by rw[CX,AZ];rfl
  | x::l,k+1,h=>by
    simp only[List.length_cons]at h
    rw[CX,AZ,if_pos (by simp<;>omega),show idx (x::l) 0=some x from rfl,Option.bind_some,Nq,List.dropWhile_cons]
    try dsimp only
    cases x==c
    · rfl
    · rw[if_pos rfl,Jl,Option.bind_some,Q7 c k2 l k (by omega)];rfl
theorem AFL (c:UInt8) (l:List UInt8) (hc:c.toNat<128) (hN:l.length<N):Dq N l [c]=some (l.dropWhile (· ==c)):=by
  unfold Dq
  refine(CO (a:=l==[]) fun k=>?_).trans ?_
  · cases l==[]<;>rfl
  try dsimp only
  by_cases h:l=[]
  · subst h;rfl
  · rw[if_neg (by simpa using h)]
    have:(Am c<128):=by simp only[Am];omega
    refine(CO (a:=true) fun k=>?_).trans ?_
    · rw[if_pos (by rfl),show idx [c] 0=some c from rfl,Option.bind_some,decide_eq_true this]
    try dsimp only
    rw[if_pos rfl,show idx [c] 0=some c from rfl,Option.bind_some]
    unfold strings_trimLeftByte
    rw[AZ,Q7 c _ l N hN];rfl
def Ih (p:UInt8→Bool) (l:List UInt8):List UInt8:=(l.reverse.dropWhile p).reverse
theorem Mx (p:UInt8→Bool) (l:List UInt8) (x:UInt8):Ih p (l++[x])=if p x=true then Ih p l else l++[x]:=by
  unfold Ih
  rw[List.reverse_append,List.reverse_cons,List.reverse_nil,List.nil_append,List.singleton_append,List.dropWhile_cons]
  split<;>simp
theorem QP (p:UInt8→Bool) (l:List UInt8):(Ih p l).length≤l.length:=by
  unfold Ih
  have:=(List.dropWhile_sublist p (l:=l.reverse)).length_le
  simpa using this
theorem Zb{α:Type} (l:List α) (x:α) (hb:l.length≤2^60):sub (l++[x]) 0 (wr .i64 ((((l++[x]).length:Nat):Int)-1))=some l:=by
  rw[Ai (by simp<;>omega),show(((l++[x]).length:Nat):Int)-1=(l.length:Int) by simp,show(0:Int)=((0:Nat):Int)from rfl,FE _ 0 l.length (by omega) (by simp)]
  simp
theorem Za{α:Type} (l:List α) (x:α) (hb:l.length≤2^60):idx (l++[x]) (wr .i64 ((((l++[x]).length:Nat):Int)-1))=some x:=by
  rw[Ai (by simp<;>omega),show(((l++[x]).length:Nat):Int)-1=(l.length:Int) by simp,NG]
  simp
theorem Q3 (c:UInt8) (k2:List UInt8→Option (List UInt8)): ∀(n:Nat) (l:List UInt8),l.length=n→n≤2^60→ ∀k:Nat,n<k→CQ N (Am c) k2 k l=k2 (Ih (· ==c) l)
  | 0,l,hl,hb,k+1,_=>by
    have:l=[]:=List.length_eq_zero_iff.1 hl
    subst this
    rw[CQ,AZ];rfl
  | n+1,l,hl,hb,k+1,h=>by
    obtain⟨l',x,rfl⟩: ∃l' x,l=l'++[x]:=by
      have hne:l≠ []:=fun e=>by subst e;simp at hl
      exact⟨l.dropLast,l.getLast hne,(List.dropLast_concat_getLast hne).symm⟩
    have hl':l'.length=n:=by simpa using hl
    rw[CQ,AZ,if_pos (by simp<;>omega),Za l' x (by omega),Option.bind_some,Nq,Mx]
    try dsimp only
    cases x==c
    · rfl
    · rw[if_pos rfl,if_pos rfl,Zb l' x (by omega),Option.bind_some,Q3 c k2 n l' hl' (by omega) k (by omega)]
theorem AGE (c:UInt8) (l:List UInt8) (hc:c.toNat<128) (hb:l.length≤2^60) (hN:l.length<N):FV N l [c]=some (Ih (· ==c) l):=by
  unfold FV
  refine(CO (a:=l==[]) fun k=>?_).trans ?_
  · cases l==[]<;>rfl
  try dsimp only
  by_cases h:l=[]
  · subst h;rfl
  · rw[if_neg (by simpa using h)]
    have:(Am c<128):=by simp only[Am];omega
    refine(CO (a:=true) fun k=>?_).trans ?_
    · rw[if_pos (by rfl),show idx [c] 0=some c from rfl,Option.bind_some,decide_eq_true this]
    try dsimp only
    rw[if_pos rfl,show idx [c] 0=some c from rfl,Option.bind_some]
    unfold strings_trimRightByte
    rw[AZ,Q3 c _ _ l rfl hb N hN];rfl
def WP (as:List Bool) (set:List UInt8):Prop:=as.length=256∧ ∀c:UInt8,as[c.toNat]?=some (set.contains c)
theorem XY (k2:List Bool→Option (List Bool×Bool)) (done:List UInt8): ∀(l:List UInt8) (done:List UInt8) (bn:List Bool),(∀c∈l,c.toNat<128)→WP bn done→ ∃as,Br N k2 l bn=k2 as∧WP as (done++l)
  |[],done,bn,hl,hs=>⟨bn,by rw[Br],by simpa using hs⟩
  | x::l,done,bn,hl,hs=>by
    have hx:=hl x (by simp)
    have c1: ¬Am x≥128:=by simp only[Am];omega
    obtain⟨as,h1,h2⟩:=XY k2 done l (done++[x]) (bn.set x.toNat true) (fun c hc=>hl c (by simp[hc])) ⟨by simp[hs.1],fun c=>by
      rw[List.getElem?_set]
      by_cases e:x.toNat=c.toNat
      · have:x=c:=UInt8.toNat_inj.1 e
        subst this
        rw[if_pos rfl,if_pos (by rw[hs.1];exact x.toNat_lt)]
        simp
      · rw[if_neg e,hs.2 c]
        have: ¬c=x:=fun h=>e (by rw[h])
        simp[this]⟩
    refine⟨as,?_,by simpa using h2⟩
    rw[Br,if_neg (by simpa using c1),AY (by simp only[Am];omega),AY (by rw[hs.1];simp only[Am,Int.toNat_natCast];omega)]
    exact h1
theorem AFC (set:List UInt8) (hl: ∀c∈set,c.toNat<128) (hb:set.length≤1000): ∃as,strings_makeASCIISet N set=some (as,true)∧WP as set:=by
  unfold strings_makeASCIISet
  rw[AZ,AY (by unfold BX;omega)]
  obtain⟨as,h1,h2⟩:=XY (N:=N) (fun j1=>grd (j1.length=256) (some (j1,true))) [] set [] (UA 256) hl ⟨Q8,fun c=>by
    have:=c.toNat_lt
    rw[UA,List.getElem?_replicate,if_pos (by omega)];rfl⟩
  exact⟨as,by rw[h1,AY h2.1],h2⟩
theorem YL{as:List Bool}{set:List UInt8} (h:WP as set) (c:UInt8):Cr N as (Am c)=some (set.contains c,as):=by
  have:=c.toNat_lt
  unfold Cr
  rw[AY (by simp only[Am];omega),IY,NG,h.2 c];rfl
theorem Ra (k2:List UInt8×List Bool→Option (List UInt8×List Bool)){as:List Bool}{set:List UInt8} (hs:WP as set): ∀(l:List UInt8) (k:Nat),l.length<k→CP N k2 k l as=k2 (l.dropWhile set.contains,as)
  |[],k+1,_=>by rw[CP];rfl
  | x::l,k+1,h=>by
    simp only[List.length_cons]at h
    rw[CP,if_pos (by simp<;>omega),show idx (x::l) 0=some x from rfl,Option.bind_some,YL hs,Option.bind_some,List.dropWhile_cons]
    try dsimp only
    cases set.contains x
    · rfl
    · rw[if_pos rfl,Jl,Option.bind_some,Ra k2 hs l k (by omega)];rfl
theorem ACf (l set:List UInt8) (h2:2≤set.length) (hs:set.length≤1000) (hl: ∀c∈set,c.toNat<128) (hN:l.length<N):Dq N l set=some (l.dropWhile set.contains):=by
  unfold Dq
  have hne:set≠ []:=fun e=>by subst e;simp at h2
  refine(CO (a:=l==[]) fun k=>?_).trans ?_
  · have:(set==[])=false:=by simpa using hne
    rw[this]
    cases l==[]<;>rfl
  try dsimp only
  by_cases h:l=[]
  · subst h;rfl
  · rw[if_neg (by simpa using h)]
    refine(CO (a:=false) fun k=>?_).trans ?_
    · rw[if_neg (by simp<;>omega)]
    try dsimp only
    obtain⟨as,e1,e2⟩:=AFC (N:=N) set hl hs
    rw[if_neg (by decide),e1,Option.bind_some,AY Q8,AY e2.1,if_pos rfl]
    unfold strings_trimLeftASCII
    rw[AZ,Ra _ e2 l N hN];rfl
theorem AJZ (c:UInt8) (l:List UInt8):strings_HasPrefix N l [c]=some (C8 [c] l):=by
  unfold strings_HasPrefix DL
  cases l with
  |nil=>rfl
  | cons x l=>
    rw[if_pos (by simp<;>omega),show sub (x::l) 0 ((([c]:List UInt8).length:Nat):Int)=some [x] by
      rw[show(0:Int)=((0:Nat):Int)from rfl,FE _ 0 _ (by omega) (by simp)];rfl,Option.bind_some,Option.bind_some]
    unfold C8
    by_cases h:x=c
    · subst h;simp
    · have h': ¬c=x:=fun e=>h e.symm
      simp[h]
def AHt (n:Nat):Nat:=if 65≤n∧n≤90 then n+32 else n
def Ke (c:UInt8):UInt8:=UInt8.ofNat (AHt c.toNat)
theorem Yj (l:List UInt8) (hb:l.length≤2^60) (k2:List Int→Option (List UInt8)): ∀(t pre:List UInt8),l=pre++t→Dl N l k2 t (pre.length:Int) (List.map Am (pre.map Ke)++List.map Am t)=k2 (List.map Am (l.map Ke))
  |[],pre,h=>by rw[Dl,h];simp
  | c::t,pre,h=>by
    have hlen:pre.length<l.length:=by rw[h];simp
    have hc:=c.toNat_lt
    rw[Dl]
    refine(CO (a:=List.map Am (pre.map Ke)++(Am (Ke c)::List.map Am t)) fun k7=>?_).trans ?_
    · rw [AY (by omega),List.map_cons]
      have hi:idx (List.map Am (pre.map Ke)++Am c::List.map Am t) (pre.length:Int)=some (Am c):=by
        have:=ABz (List.map Am (pre.map Ke)) (List.map Am t) (Am c)
        simpa using this
      rw[hi,Option.bind_some]
      refine(CO (a:=decide (65≤c.toNat∧c.toNat≤90)) fun k12=>?_).trans ?_
      · by_cases h1:65≤c.toNat
        · have:(65:Int)≤Am c:=by simp only[Am];omega
          rw[if_pos (decide_eq_true this)]
          congr 1
          simp only[Am,h1,true_and]
          congr 1;simp only[eq_iff_iff];omega
        · have: ¬(65:Int)≤Am c:=by simp only[Am];omega
          rw[if_neg (by simpa using this),decide_eq_false (fun h=>h1 h.1)]
      try dsimp only
      by_cases h1:65≤c.toNat∧c.toNat≤90
      · rw[if_pos (decide_eq_true h1),AY (by simp<;>omega)]
        have e:Ke c=UInt8.ofNat (c.toNat+32):=by unfold Ke AHt;rw[if_pos h1]
        have e2:Am (Ke c)=wr .u8 (Am c+32):=by
          rw[e,AJn (by simp only[Am];omega)]
          simp only[Am]
          rw[toNat_ofNat (by omega)];simp
        rw[←e2]
        congr 1
        simp
      · rw[if_neg (by simpa using h1)]
        have e:Ke c=c:=by unfold Ke AHt;rw[if_neg h1];simp
        rw[e]
    · try dsimp only
      have:=Yj l hb k2 t (pre++[c]) (by rw[h];simp)
      rw[←MH]at this
      rw[←this]
      simp
theorem lower_eq (l:List UInt8) (hb:l.length≤2^60):JB N l=some (l.map Ke):=by
  unfold JB
  rw[AZ,AY (by unfold BX;omega)]
  have:=Yj (N:=N) l hb (fun j1=>grd (l.length≤j1.length∧BX l.length) (some (List.map IM (List.take l.length j1)))) l [] rfl
  simp only[List.map_nil,List.nil_append,List.length_nil]at this
  rw[show(0:Int)=((0:Nat):Int)from rfl,this,AY (by unfold BX;simp;omega),List.take_of_length_le (by simp)]
  congr 1
  induction l with
  |nil=>rfl
  |cons c l ih=>simp[Ki]
end
end Go.VM
namespace Go.VM
section
variable{N:Nat}
theorem PS: ∀l:List UInt8,List.map IM (List.map Am l)=l
  |[]=>rfl
  |c::l=>by rw[List.map_cons,List.map_cons,Ki,PS l]
def Ty:Nat→Nat→List UInt8→List UInt8
  |0,_,acc=>acc
  |k+1,n,acc=>if n / 10=0 then UInt8.ofNat (48+n % 10)::acc else Ty k (n / 10) (UInt8.ofNat (48+n % 10)::acc)
def fmtS (n:Nat):List UInt8:=Ty 20 n []
theorem WZ: ∀(k n:Nat) (acc:List UInt8),(Ty k n acc).length≤acc.length+k
  |0,n,acc=>by simp[Ty]
  | k+1,n,acc=>by
    rw[Ty]
    split
    · simp<;>omega
    · have:=WZ k (n / 10) (UInt8.ofNat (48+n % 10)::acc)
      simp only[List.length_cons]at this;omega
theorem Yi (n:Nat):(fmtS n).length≤20:=by have:=WZ 20 n [];simpa[fmtS]using this
theorem AKO (n:Nat):wr .u64 ((n:Int).tdiv 10)=if n<2^64 then((n / 10:Nat):Int)else wr .u64 ((n:Int).tdiv 10):=by
  split
  · rw[Int.tdiv_eq_ediv_of_nonneg (by omega),Js (by omega)];simp
  · rfl
theorem AJt{n:Nat} (h:n<2^64):wr .u64 ((n:Int).tdiv 10)=((n / 10:Nat):Int):=by rw[AKO,if_pos h]
theorem AJy{n:Nat}:wr .u64 (48+(n:Int).tmod 10)=((48+n % 10:Nat):Int):=by
  rw[Int.tmod_eq_emod_of_nonneg (by omega),Js (by omega)];simp
theorem Ny: ∀(k n:Nat) (acc:List UInt8),n<10^k→n<2^64→acc.length+k≤1000→ ∀m,k≤m→0<k→Ee N m (n:Int) acc=some (Ty k n acc)
  |0,n,acc,h,h2,ha,m,hm,hk=>by omega
  | k+1,n,acc,h,h2,ha,m+1,hm,hk=>by
    rw[Ee,AJt h2,AJy,Ty]
    rw[AY (by unfold BX;simp<;>omega)]
    have e:(List.map IM [wr .u8 ((48+n % 10:Nat):Int)]++acc)=UInt8.ofNat (48+n % 10)::acc:=by
      rw[M0,Nat.mod_eq_of_lt (show 48+n % 10<256 by omega)];rfl
    rw[e]
    by_cases c:n / 10=0
    · rw[if_pos (by rw[c];rfl),if_pos c]
    · have c': ¬((((n / 10:Nat):Int))==0)=true:=by simp<;>omega
      rw[if_neg c',if_neg c]
      have hk2:0<k:=by
        cases k with
        |zero=>simp at h;omega
        |succ=>omega
      exact Ny k (n / 10) _ (by rw[Nat.pow_succ]at h;omega) (by omega) (by simp<;>omega) m (by omega) hk2
theorem Ri (n:Nat) (h:n<2^64) (hN:20≤N):G5 N (n:Int)=some (fmtS n):=by
  unfold G5 fmtS
  exact Ny 20 n [] (by omega) h (by simp) N hN (by omega)
theorem X0 (a:Nat) (x:Int) (acc:List Int):(List.replicate (a+1) 0++acc).set a x=List.replicate a 0++x::acc:=by
  rw[List.replicate_succ',List.append_assoc]
  simp
theorem Nn (k2:Int×Int×List Int→Option (List UInt8)) (R:List UInt8→Option (List UInt8)) (hk: ∀(n a:Nat) (acc:List UInt8),n<10→a≤19→acc.length+a=19→k2 ((n:Int),(a:Int),List.replicate (a+1) 0++acc.map Am)=R (UInt8.ofNat (48+n)::acc)):
    ∀(j n a:Nat) (acc:List UInt8),n<10^(j+1)→n<2^64→j≤a→a≤19→acc.length+a=19→ ∀m,j<m→EM N k2 m (n:Int) (a:Int) (List.replicate (a+1) 0++acc.map Am)=R (Ty (j+1) n acc)
  |j,n,a,acc,h,h2,hj,ha,hl,0,hm=>by omega
  | j,n,a,acc,h,h2,hj,ha,hl,m+1,hm=>by
    rw[EM,Ty]
    by_cases c:n / 10=0
    · have c': ¬(n:Int)≥10:=by omega
      rw[if_neg (by simpa using c'),if_pos c,Nat.mod_eq_of_lt (by omega)]
      exact hk n a acc (by omega) ha hl
    · have c':(n:Int)≥10:=by omega
      rw[if_pos (decide_eq_true c'),if_neg c]
      obtain⟨j,rfl⟩: ∃i,j=i+1:=⟨j-1,by
        cases j with
        |zero=>simp at h;omega
        |succ=>omega⟩
      obtain⟨a,rfl⟩: ∃i,a=i+1:=⟨a-1,by omega⟩
      rw[AY (by omega),AY (by simp<;>omega),AJt h2,AJy,M0,Nat.mod_eq_of_lt (show 48+n % 10<256 by omega),Ai (by omega)]
      rw[show((a+1:Nat):Int)-1=(a:Int) by simp,Int.toNat_natCast,X0]
      have e:List.replicate (a+1) 0++((48+n % 10:Nat):Int)::List.map Am acc=List.replicate (a+1) 0++List.map Am (UInt8.ofNat (48+n % 10)::acc):=by
        rw[List.map_cons,IY,toNat_ofNat (by omega)]
      rw[e]
      exact Nn k2 R hk j (n / 10) a _ (by rw[Nat.pow_succ]at h;omega) (by omega) (by omega) (by omega) (by simp<;>omega) m (by omega)
theorem Qe (n:Nat) (h:n<2^64) (hN:20≤N):Gf N (n:Int)=some (fmtS n):=by
  unfold Gf fmtS
  rw[AZ]
  refine Nn (N:=N) _ some (fun n a acc hn ha hl=>?_) 19 n 19 [] (by omega) h (by omega) (by omega) rfl N (by omega)
  have w:wr .u8 (wr .u64 (48+(n:Int)))=((48+n:Nat):Int):=by
    rw[Js (by omega),show(48:Int)+(n:Int)=((48+n:Nat):Int) by simp,M0,Nat.mod_eq_of_lt (by omega)]
  simp only[Int.toNat_natCast,w]
  rw[X0]
  rw[AY (by omega),AY (by simp<;>omega),AY (by omega),AY (by unfold BX;simp<;>omega)]
  congr 1
  rw[List.drop_append,List.drop_of_length_le (by simp),List.length_replicate,Nat.sub_self,List.drop_zero,List.nil_append,List.take_of_length_le (by simp<;>omega),List.map_cons,PS]
  rfl
end
end Go.VM
namespace Go.VM
structure NumP (s sg W F FR P EX:List UInt8):Prop where
  eq:s=sg++(W++(FR++EX))
  sg:sg=[]∨sg=[45]
  Wd:W.all Du=true
  Wn:W≠ []
  fr:(FR=[]∧F=[])∨FR=46::F
  Fd:F.all Du=true
  ex:(EX=[]∧P=[])∨EX=101::P∨EX=69::P
  pw:P=[]∨ ∃sn D,P=sn++D∧(sn=[]∨sn=[43]∨sn=[45])∧D≠ []∧D.all Du=true
theorem Pw (t:List UInt8):(t.take (EZ t)).all Du=true:=by
  unfold EZ
  rw[M7]
  induction t with
  |nil=>rfl
  | cons c t ih=>
    rw[List.takeWhile_cons]
    cases h:Du c
    · rfl
    · simp only[if_true,List.all_cons,h,Bool.true_and];exact ih
theorem QH{k:UInt8}{t:List UInt8} (h:C8 [k] t=true): ∃r,t=k::r:=by
  cases t with
  |nil=>cases h
  | cons c r=>
    have:c=k:=by simpa[C8]using h
    exact⟨r,by rw[this]⟩
theorem Wi{a b:UInt8}{t:List UInt8} (h:C8 [a,b] t=true): ∃r,t=a::r∨t=b::r:=by
  cases t with
  |nil=>cases h
  | cons c r=>
    have:c=a∨c=b:=by simpa[C8]using h
    rcases this with rfl|rfl
    · exact⟨r,.inl rfl⟩
    · exact⟨r,.inr rfl⟩
theorem AD6 (t:List UInt8):t.take (A9 t)=[]∨t.take (A9 t)=[45]:=by
  unfold A9
  by_cases h:C8 [45] t=true
  · rw[if_pos h]
    obtain⟨r,rfl⟩:=QH h
    exact .inr rfl
  · rw[if_neg h];exact .inl (by simp)
theorem AFK (t:List UInt8) (h:DV t≠0):(t.take (DV t)).all Du=true∧t.take (DV t)≠ []:=by
  have hle:=NJ t
  refine⟨?_,fun e=>?_⟩
  · unfold DV
    by_cases h:C8 [48] t=true
    · rw[if_pos h]
      obtain⟨r,rfl⟩:=QH h
      rfl
    · rw[if_neg h];exact Pw t
  · have:=congrArg List.length e
    rw[List.length_take,List.length_nil]at this
    omega
theorem ACY (t:List UInt8): ∃F,((t.take (Ef t)=[]∧F=[])∨t.take (Ef t)=46::F)∧F.all Du=true:=by
  unfold Ef
  by_cases h:C8 [46] t=true∧0<EZ (t.drop 1)
  · rw[if_pos h]
    obtain⟨r,rfl⟩:=QH h.1
    refine⟨r.take (EZ r),.inr ?_,Pw r⟩
    rw[Nat.add_comm];rfl
  · rw[if_neg h];exact⟨[],.inl ⟨by simp,rfl⟩,rfl⟩
theorem AGk (t:List UInt8): ∃P,((t.take (JS t)=[]∧P=[])∨t.take (JS t)=101::P∨t.take (JS t)=69::P)∧(P=[]∨ ∃sn D,P=sn++D∧(sn=[]∨sn=[43]∨sn=[45])∧D≠ []∧D.all Du=true):=by
  unfold JS
  by_cases h:C8 [101,69] t=true∧0<EZ (t.drop (1+Hf t))
  · rw [if_pos h]
    have key: ∀(c:UInt8) (r:List UInt8),t=c::r→ ∃P,t.take (1+Hf t+EZ (t.drop (1+Hf t)))=c::P∧(P=[]∨ ∃sn D,P=sn++D∧(sn=[]∨sn=[43]∨sn=[45])∧D≠ []∧D.all Du=true):=by
      rintro c r rfl
      have hr:=h.2
      have hes:Hf (c::r)=if C8 [43,45] r=true then 1 else 0:=rfl
      by_cases k:C8 [43,45] r=true
      · rw[if_pos k]at hes
        rw[hes]at hr⊢
        obtain⟨d,q,rfl,hd⟩: ∃d q,r=d::q∧(d=43∨d=45):=by
          obtain⟨q,e|e⟩:=Wi k
          · exact⟨_,q,e,.inl rfl⟩
          · exact⟨_,q,e,.inr rfl⟩
        have e:(c::d::q).drop (1+1)=q:=rfl
        rw[e]at hr⊢
        refine⟨d::q.take (EZ q),?_,.inr ⟨[d],q.take (EZ q),rfl,?_,fun e=>?_,Pw q⟩⟩
        · rw[show 1+1+EZ q=EZ q+1+1 by omega];rfl
        · rcases hd with rfl|rfl
          · exact .inr (.inl rfl)
          · exact .inr (.inr rfl)
        · have:=congrArg List.length e
          have h2:=LB q
          rw[List.length_take,List.length_nil]at this;omega
      · rw[if_neg k]at hes
        rw[hes]at hr⊢
        have e:(c::r).drop (1+0)=r:=rfl
        rw[e]at hr⊢
        refine⟨r.take (EZ r),?_,.inr ⟨[],r.take (EZ r),rfl,.inl rfl,fun e=>?_,Pw r⟩⟩
        · rw[show 1+0+EZ r=EZ r+1 by omega];rfl
        · have:=congrArg List.length e
          have h2:=LB r
          rw[List.length_take,List.length_nil]at this;omega
    obtain⟨r,e|e⟩:=Wi h.1
    · obtain⟨P,h1,h2⟩:=key _ _ e
      exact⟨P,.inr (.inl h1),h2⟩
    · obtain⟨P,h1,h2⟩:=key _ _ e
      exact⟨P,.inr (.inr h1),h2⟩
  · rw[if_neg h];exact⟨[],.inl ⟨by simp,rfl⟩,.inl rfl⟩
theorem AK1 (s:List UInt8) (a b c:Nat):s=s.take a++((s.drop a).take b++((s.drop (a+b)).take c++s.drop (a+b+c))):=by
  rw[show s.drop (a+b+c)=(s.drop (a+b)).drop c by rw[List.drop_drop],List.take_append_drop,show s.drop (a+b)=(s.drop a).drop b by rw[List.drop_drop],List.take_append_drop,List.take_append_drop]
theorem TU{s:List UInt8} (h0:s≠ []) (h:EE s=s.length): ∃sg W F FR P EX,NumP s sg W F FR P EX:=by
  have hpos:s.length≠0:=fun e=>h0 (List.length_eq_zero_iff.1 e)
  have hz:DV (s.drop (A9 s))≠0:=by
    intro hz
    unfold EE at h;rw[if_pos hz]at h;omega
  have hnum:EE s=A9 s+DV (s.drop (A9 s))+Ef (s.drop (A9 s+DV (s.drop (A9 s))))+JS (s.drop (A9 s+DV (s.drop (A9 s))+Ef (s.drop (A9 s+DV (s.drop (A9 s)))))):=by
    unfold EE;rw[if_neg hz]
  obtain⟨w1,w2⟩:=AFK _ hz
  obtain⟨F,f1,f2⟩:=ACY (s.drop (A9 s+DV (s.drop (A9 s))))
  obtain⟨P,e1,e2⟩:=AGk (s.drop (A9 s+DV (s.drop (A9 s))+Ef (s.drop (A9 s+DV (s.drop (A9 s))))))
  refine⟨_,_,F,_,P,_,⟨?_,AD6 s,w1,w2,f1,f2,e1,e2⟩⟩
  rw[List.take_of_length_le (l:=s.drop (A9 s+DV (s.drop (A9 s))+Ef (s.drop (A9 s+DV (s.drop (A9 s)))))) (by rw[List.length_drop];omega)]
  exact AK1 _ _ _ _
theorem ALS{c k:UInt8} (h:Du c=true) (hk:Du k=false):c≠k:=fun e=>by subst e;rw[h]at hk;cases hk
theorem Pz{k:UInt8} (hk:Du k=false): ∀ {l:List UInt8},l.all Du=true→l.contains k=false
  |[],_=>rfl
  | c::l,h=>by
    simp only[List.all_cons,Bool.and_eq_true]at h
    rw[List.contains_cons,Pz hk h.2,Bool.or_false]
    have:=ALS h.1 hk
    simpa using fun e:k=c=>this e.symm
end Go.VM
namespace Go.VM
section
variable{N:Nat}
def H5:Nat→List UInt8→Nat
  |n,[]=>n
  |n,c::l=>H5 (n * 10+Fv c.toNat) l
theorem Nt: ∀(l:List UInt8) (n:Nat),n≤H5 n l
  |[],n=>by rw[H5];exact Nat.le_refl _
  | c::l,n=>by
    have:=Nt l (n * 10+Fv c.toNat)
    rw[H5];omega
theorem KA{c:UInt8} (h:Du c=true):48≤c.toNat∧c.toNat≤57:=by
  simpa[Du]using h
theorem Px{c:UInt8} (h:Du c=true):LC c=true∧Fv c.toNat=c.toNat-48:=by
  have:=KA h
  refine⟨?_,?_⟩
  · simp only[LC,R9,Bool.or_eq_true,Bool.and_eq_true,decide_eq_true_eq];omega
  · unfold Fv;rw[if_pos this.2]
theorem AJx (k2:Unit→Option (Int×Int)): ∀l:List UInt8,BJ N k2 l=if l.all Du=true then k2 ()else some (0,1)
  |[]=>by rw[BJ];rfl
  | c::l=>by
    rw[BJ,ABl,Option.bind_some,AJx k2 l]
    cases h:Du c<;>simp[h]
theorem AJo{m:Nat} (hm:m≤2^59) (k9:Int→Option (Int×Int)): ∀(l:List UInt8) (n:Nat),l.all Du=true→n≤m→BI N 10 (m:Int) k9 l (n:Int)=if H5 n l≤m then k9 ((H5 n l:Nat):Int)else some (0,4)
  |[],n,_,hn=>by rw[BI,H5,if_pos hn]
  | c::l,n,h,hn=>by
    simp only[List.all_cons,Bool.and_eq_true]at h
    have hd:Fv c.toNat≤9:=by have:=KA h.1;rw[(Px h.1).2];omega
    obtain⟨hx,hv⟩:=Px h.1
    rw[BI,AI0 c hx,Option.bind_some,AZ,AY (by decide)]
    have w1:wr .u64 ((n:Int) * 10)=((n * 10:Nat):Int):=by rw[Js (by omega)];simp
    have w2:wr .u64 (((n * 10:Nat):Int)+((Fv c.toNat:Nat):Int))=((n * 10+Fv c.toNat:Nat):Int):=by rw[Js (by omega)];simp
    have w3:wr .u64 (18446744073709551615-((Fv c.toNat:Nat):Int))=18446744073709551615-((Fv c.toNat:Nat):Int):=Js (by omega)
    rw[w1,w2,w3,Int.tdiv_eq_ediv_of_nonneg (by omega),Js (by omega)]
    have c1: ¬((n:Int)>(18446744073709551615-((Fv c.toNat:Nat):Int)) / 10):=by omega
    rw[if_neg (by simpa using c1),H5]
    by_cases c2:n * 10+Fv c.toNat≤m
    · have c3: ¬(((n * 10+Fv c.toNat:Nat):Int)>(m:Int)):=by omega
      rw[decide_eq_false c3]
      simp only[Bool.false_eq_true,if_false]
      exact AJo hm k9 l _ h.2 c2
    · have c3:(((n * 10+Fv c.toNat:Nat):Int)>(m:Int)):=by omega
      have:=Nt l (n * 10+Fv c.toNat)
      rw[decide_eq_true c3,if_neg (by omega)];rfl
theorem AC5{m:Nat} (hm:m≤2^59) (l:List UInt8) (hb:l.length≤2^60):IQ N l (m:Int)=some (if l=[]then(0,3)else if l.all Du=true then(if H5 0 l≤m then(((H5 0 l:Nat):Int),0)else(0,4))else(0,1)):=by
  unfold IQ Dr
  by_cases h:l=[]
  · subst h;rfl
  · rw[if_neg (by simpa using h),if_neg h,AZ,AY (by unfold BX;omega),AJx]
    by_cases h1:l.all Du=true
    · rw[if_pos h1,if_pos h1,AZ,AY (by unfold BX;omega),show(0:Int)=((0:Nat):Int)from rfl,AJo hm _ l 0 h1 (by omega)]
      split<;>rfl
    · rw[if_neg h1,if_neg h1];rfl
def Jw (B:Nat) (P:List UInt8):Int:=if C8 [45] P=true then-((min (H5 0 (P.dropWhile ([43,45]:List UInt8).contains)) B:Nat):Int)else((min (H5 0 (P.dropWhile ([43,45]:List UInt8).contains)) B:Nat):Int)
def ABo (P:List UInt8):Prop:=P=[]∨ ∃sn D,P=sn++D∧(sn=[]∨sn=[43]∨sn=[45])∧D≠ []∧D.all Du=true
theorem ABa{c:UInt8} (h:Du c=true):([43,45]:List UInt8).contains c=false:=by
  have:=Fg (f:=fun n=>if(decide (48≤n)&&decide (n≤57))=true then([43,45]:List UInt8).contains (UInt8.ofNat n)else false) (g:=fun _=>false) (by kernel_rfl) c
  simp only[UInt8.ofNat_toNat,show(decide (48≤c.toNat)&&decide (c.toNat≤57))=true from h,if_true]at this
  exact this
theorem Nv{D:List UInt8} (h:D.all Du=true):D.dropWhile ([43,45]:List UInt8).contains=D:=by
  cases D with
  |nil=>rfl
  | cons c D=>
    simp only[List.all_cons,Bool.and_eq_true]at h
    rw[List.dropWhile_cons,ABa h.1];rfl
theorem Tf{P:List UInt8} (h:ABo P):(P.dropWhile ([43,45]:List UInt8).contains).all Du=true∧(P.dropWhile ([43,45]:List UInt8).contains=[]→P=[]):=by
  rcases h with rfl|⟨sn,D,rfl,hs,hD,hd⟩
  · exact⟨rfl,fun _=>rfl⟩
  · have:(sn++D).dropWhile ([43,45]:List UInt8).contains=D:=by
      rcases hs with rfl|rfl|rfl
      · exact Nv hd
      · show(43::D).dropWhile _=D
        rw[List.dropWhile_cons,show([43,45]:List UInt8).contains 43=true from rfl,if_pos rfl];exact Nv hd
      · show(45::D).dropWhile _=D
        rw[List.dropWhile_cons,show([43,45]:List UInt8).contains 45=true from rfl,if_pos rfl];exact Nv hd
    rw[this]
    exact⟨hd,fun e=>absurd e hD⟩
theorem AIz{P:List UInt8} (h:ABo P) (hb:P.length≤2^60) (hN:P.length<N):Gt N P=some (Jw (2^40) P):=by
  obtain⟨h1,h2⟩:=Tf h
  unfold Gt
  rw[ACf P [43,45] (by simp) (by simp) (by decide) hN,Option.bind_some]
  have hl:=(List.dropWhile_sublist ([43,45]:List UInt8).contains (l:=P)).length_le
  unfold Jw
  generalize hD:P.dropWhile ([43,45]:List UInt8).contains=D at *
  rw[show(1099511627776:Int)=((2^40:Nat):Int)from rfl,AC5 (by decide) D (by omega),Option.bind_some]
  by_cases he:D=[]
  · rw[if_pos he]
    have hP:=h2 he
    subst hP;subst he
    rfl
  · rw[if_neg he,if_pos h1]
    have key: ∀v:Nat,v≤2^40→(Option.bind (strings_HasPrefix N P [45]) fun y9=>if y9=true then some (wr .i64 (0-wr .i64 (v:Int)))else some (wr .i64 (v:Int)))=some (if C8 [45] P=true then-(v:Int)else(v:Int)):=by
      intro v hv
      rw[AJZ,Option.bind_some,Ai (n:=(v:Int)) (by omega),Ai (n:=0-(v:Int)) (by omega)]
      split<;>simp
    rw[AZ]
    by_cases hv:H5 0 D≤2^40
    · rw[if_pos hv,Nat.min_eq_left hv]
      exact key _ hv
    · rw[if_neg hv,Nat.min_eq_right (by omega)]
      exact key _ (Nat.le_refl _)
theorem Ov (k19:Int→Option Int): ∀(l:List UInt8) (n:Nat),l.all Du=true→n≤2^30→Cm N k19 l (n:Int)=k19 ((min (H5 n l) (2^30):Nat):Int)
  |[],n,_,hn=>by rw[Cm,H5,Nat.min_eq_left hn]
  | c::l,n,h,hn=>by
    simp only[List.all_cons,Bool.and_eq_true]at h
    have hd:=KA h.1
    rw[Cm,H5]
    have w0:wr .u8 (Am c-48)=((Fv c.toNat:Nat):Int):=by rw[AJn (by simp only[Am];omega)];rw[(Px h.1).2];simp only[Am];omega
    have hd9:Fv c.toNat≤9:=by rw[(Px h.1).2];omega
    rw[w0,Ai (n:=(n:Int) * 10) (by omega),Ai (n:=((Fv c.toNat:Nat):Int)) (by omega),Ai (by omega)]
    have e:(n:Int) * 10+((Fv c.toNat:Nat):Int)=((n * 10+Fv c.toNat:Nat):Int):=by simp
    rw[e]
    have hge:=Nt l (n * 10+Fv c.toNat)
    by_cases c1:(1073741824:Int)<((n * 10+Fv c.toNat:Nat):Int)
    · rw[if_pos c1,show(1073741824:Int)=((2^30:Nat):Int)from rfl,Ov k19 l (2^30) h.2 (Nat.le_refl _)]
      have:=Nt l (2^30)
      rw[Nat.min_eq_right this,Nat.min_eq_right (by omega)]
    · rw[if_neg c1,Ov k19 l _ h.2 (by omega)]
theorem AHa{P:List UInt8} (h:ABo P) (hb:P.length≤2^60):Gu N P=some (Jw (2^30) P):=by
  obtain⟨h1,h2⟩:=Tf h
  unfold Gu
  refine(CO (a:=C8 [45] P) fun k2=>?_).trans ?_
  · cases P with
    |nil=>rfl
    |cons c P=>rw[if_neg (by simp),show idx (c::P) 0=some c from rfl,Option.bind_some,AEx];rfl
  try dsimp only
  refine(CO (a:=P.dropWhile ([43,45]:List UInt8).contains) fun k7=>(CO (a:=C8 [43,45] P) fun k11=>?_).trans ?_).trans ?_
  · cases P with
    |nil=>rfl
    | cons c P=>
      show(if(c::P==([]:List UInt8))=true then k11 false else Option.bind (idx (c::P) 0) fun x14=>Option.bind (Gr N (Am x14) [43,45]) fun y15=>k11 y15)=_
      rw[if_neg (by simp),show idx (c::P) 0=some c from rfl,Option.bind_some,Oq _ _ (by decide),Option.bind_some];rfl
  · try dsimp only
    rcases h with rfl|⟨sn,D,rfl,hs,hD,hd⟩
    · rfl
    · have hdd:=Nv hd
      rcases hs with rfl|rfl|rfl
      · cases D with
        |nil=>exact absurd rfl hD
        | cons c D=>
          simp only[List.all_cons,Bool.and_eq_true]at hd
          rw[List.nil_append,hdd,if_neg (by show¬([43,45]:List UInt8).contains c=true;rw[ABa hd.1];simp)]
      · have e:([43]++D).dropWhile ([43,45]:List UInt8).contains=D:=by
          show(43::D).dropWhile _=D
          rw[List.dropWhile_cons,show([43,45]:List UInt8).contains 43=true from rfl,if_pos rfl];exact hdd
        rw[e,if_pos (by rfl)]
        exact(congrArg (fun x=>Option.bind x k7) (Jl 43 D)).trans rfl
      · have e:([45]++D).dropWhile ([43,45]:List UInt8).contains=D:=by
          show(45::D).dropWhile _=D
          rw[List.dropWhile_cons,show([43,45]:List UInt8).contains 45=true from rfl,if_pos rfl];exact hdd
        rw[e,if_pos (by rfl)]
        exact(congrArg (fun x=>Option.bind x k7) (Jl 45 D)).trans rfl
  try dsimp only
  have hl:=(List.dropWhile_sublist ([43,45]:List UInt8).contains (l:=P)).length_le
  unfold Jw
  generalize hD:P.dropWhile ([43,45]:List UInt8).contains=D at *
  rw[AZ,AY (by unfold BX;omega),show(0:Int)=((0:Nat):Int)from rfl,Ov _ D 0 h1 (by omega)]
  have:min (H5 0 D) (2^30)≤2^30:=Nat.min_le_right _ _
  rw[Ai (by omega)]
  split<;>simp
def AK0 (y:Int):List UInt8:=if y<0 then [101,45]++fmtS (-y).toNat else if y>0 then [101]++fmtS y.toNat else []
def Ji (sg m:List UInt8) (x:Int):List UInt8×Int:=
  let m1:=m.dropWhile (· ==48)
  let sh:=Ih (· ==48) m1
  if sh=[]then([48],0)
  else if sh.length>40∨x+m1.length-sh.length< -400∨x+m1.length-sh.length>400 then([],144)
  else(sg++sh++AK0 (x+m1.length-sh.length),0)
theorem P5{y:Int} (h:0≤y) (h2:y≤2^60):wr .u64 y=((y.toNat:Nat):Int):=by rw[Js (by omega)];omega
theorem Uq{l:List UInt8} (h:l.all Du=true):l.map Ke=l:=by
  induction l with
  |nil=>rfl
  | cons c l ih=>
    simp only[List.all_cons,Bool.and_eq_true]at h
    have:=KA h.1
    rw[List.map_cons,ih h.2]
    congr 1
    unfold Ke AHt;rw[if_neg (by omega)];simp
theorem U3{c:UInt8}{a b:List UInt8} (h:a.contains c=false):Sa c (a++c::b)=(a,b,true):=by
  have h1: ∀a:List UInt8,a.contains c=false→(a++c::b).takeWhile (· !=c)=a∧(a++c::b).dropWhile (· !=c)=c::b:=by
    intro a
    induction a with
    |nil=>intro _;simp
    | cons x a ih=>
      intro h
      rw[List.contains_cons,Bool.or_eq_false_iff]at h
      have hx:(x !=c)=true:=by
        have:c≠x:=by simpa using h.1
        simpa using fun e:x=c=>this e.symm
      obtain⟨i1,i2⟩:=ih h.2
      rw[List.cons_append,List.takeWhile_cons,List.dropWhile_cons,hx,i1,i2]
      exact⟨rfl,rfl⟩
  unfold Sa
  rw[if_pos (by simp),(h1 a h).1,(h1 a h).2];rfl
theorem ABs{c:UInt8}{a:List UInt8} (h:a.contains c=false):Sa c a=(a,[],false):=by
  unfold Sa;rw[if_neg (by rw[h];simp)]
theorem VK{c:UInt8}{a b:List UInt8}:(a++b).contains c=(a.contains c||b.contains c):=by
  simp[List.contains_eq_any_beq,List.any_append]
theorem ABj{P:List UInt8} (h:ABo P):P.map Ke=P:=by
  rcases h with rfl|⟨sn,D,rfl,hs,hD,hd⟩
  · rfl
  · rw[List.map_append,Uq hd]
    rcases hs with rfl|rfl|rfl<;>rfl
section
variable{s sg W F FR P EX:List UInt8}
theorem NumP.len (h:NumP s sg W F FR P EX):s.length=sg.length+(W.length+(FR.length+EX.length))∧F.length≤FR.length∧P.length≤EX.length:=by
  refine⟨by rw[h.eq];simp,?_,?_⟩
  · rcases h.fr with⟨e1,e2⟩|e
    · rw[e2];simp
    · rw[e];simp
  · rcases h.ex with⟨e1,e2⟩|e|e
    · rw[e2];simp
    · rw[e];simp
    · rw[e];simp
theorem NumP.not_e (h:NumP s sg W F FR P EX) (k:UInt8) (hk:Du k=false) (h46:k≠46):(W++FR).contains k=false:=by
  rw[VK,Pz hk h.Wd,Bool.false_or]
  rcases h.fr with⟨e1,e2⟩|e
  · rw[e1];rfl
  · rw[e,List.contains_cons,Pz hk h.Fd,Bool.or_false]
    simpa using h46
theorem AJK (h:NumP s sg W F FR P EX) (hn:EE s=s.length) (hb:s.length≤2^48) (hN:s.length+30<N):EU N s=some (Ji sg (W++F) (Jw (2^40) P-F.length)):=by
  obtain⟨l1,l2,l3⟩:=h.len
  have hne:s≠ []:=by
    rw[h.eq]
    have:=h.Wn
    intro e
    have:=List.append_eq_nil_iff.1 e
    have:=List.append_eq_nil_iff.1 this.2
    exact h.Wn this.1
  have hpos:s.length≠0:=fun e=>hne (List.length_eq_zero_iff.1 e)
  unfold EU
  have hp:=QL (N:=N) (l:=s) (t:=s) (i:=0) (by simp) (by omega) (by omega)
  rw[if_neg (by rw[hn];exact hpos)]at hp
  have hp':Ch N (TokenReader.mk s 0)=some (s.take (EE s),true,(⟨s,((0+EE s:Nat):Int)⟩:TokenReader)):=hp
  rw[hp',Option.bind_some]
  refine(CO (a:=false) fun k4=>?_).trans ?_
  · rw[if_pos rfl,hn,List.take_of_length_le (Nat.le_refl _)];simp
  try dsimp only
  rw[if_neg (by decide)]
  have hhead: ∀k7:List UInt8×List UInt8→Option (List UInt8×Int),(Option.bind (idx s 0) fun x11=>if(Am x11==45)=true then Option.bind (sub s 1 (s.length:Int)) fun x12=>k7 ([45],x12)else k7 ([],s))=k7 (sg,W++(FR++EX)):=by
    intro k7
    rcases h.sg with e|e
    · have hs:s=W++(FR++EX):=by rw[h.eq,e];rfl
      cases hW:W with
      |nil=>exact absurd hW h.Wn
      | cons c W'=>
        have hc:Du c=true:=by
          have:=h.Wd
          rw[hW,List.all_cons,Bool.and_eq_true]at this
          exact this.1
        have hs2:s=c::(W'++(FR++EX)):=by rw[hs,hW];rfl
        rw[hs2,show idx (c::(W'++(FR++EX))) 0=some c from rfl,Option.bind_some,AEx,M9]
        have:=KA hc
        have: ¬c.toNat=(45:UInt8).toNat:=by show¬c.toNat=45;omega
        rw[if_neg (by simpa using this),e];rfl
    · have hs2:s=45::(W++(FR++EX)):=by rw[h.eq,e];rfl
      rw[hs2,show idx (45::(W++(FR++EX))) 0=some 45 from rfl,Option.bind_some,if_pos (by rfl),Jl,Option.bind_some,e]
  refine(CO (a:=(sg,W++(FR++EX))) fun k8=>hhead k8).trans ?_
  try dsimp only
  rw[lower_eq _ (by simp;omega),Option.bind_some]
  have hWF:(W++FR).map Ke=W++FR:=by
    rw[List.map_append,Uq h.Wd]
    rcases h.fr with⟨e1,e2⟩|e
    · rw[e1];rfl
    · rw[e,List.map_cons,Uq h.Fd];rfl
  have hlow:Sa 101 ((W++(FR++EX)).map Ke)=(W++FR,P,(Sa 101 ((W++(FR++EX)).map Ke)).2.2):=by
    rw[←List.append_assoc,List.map_append,hWF]
    have hc:=h.not_e 101 (by decide) (by decide)
    rcases h.ex with⟨e1,e2⟩|e|e
    · rw[e1,e2,List.map_nil,List.append_nil,ABs hc]
    · rw[e,List.map_cons,ABj h.pw,show Ke 101=101 from rfl,U3 hc]
    · rw[e,List.map_cons,ABj h.pw,show Ke 69=101 from rfl,U3 hc]
  rw[AF5 101 _ (by simp;omega),Option.bind_some,hlow]
  try dsimp only
  have hcut2:Sa 46 (W++FR)=(W,F,(Sa 46 (W++FR)).2.2):=by
    have hc:=Pz (k:=46) (by decide) h.Wd
    rcases h.fr with⟨e1,e2⟩|e
    · rw[e1,e2,List.append_nil,ABs hc]
    · rw[e,U3 hc]
  rw[AF5 46 _ (by simp;omega),Option.bind_some,hcut2]
  try dsimp only
  rw[AY (by unfold BX;omega),AFL 48 (W++F) (by decide) (by simp;omega),Option.bind_some]
  have hml:=(List.dropWhile_sublist (fun x:UInt8=>x==48) (l:=W++F)).length_le
  rw[List.length_append]at hml
  have htl:=QP (fun x:UInt8=>x==48) ((W++F).dropWhile (fun x:UInt8=>x==48))
  rw[AGE 48 _ (by decide) (by omega) (by omega),Option.bind_some]
  unfold Ji
  dsimp only
  generalize hm1:(W++F).dropWhile (fun x:UInt8=>x==48)=m1 at *
  generalize hsh:Ih (fun x:UInt8=>x==48) m1=sh at *
  try dsimp only
  by_cases hz:sh=[]
  · rw[if_pos (by simpa using hz),if_pos hz]
  rw[if_neg (by simpa using hz),if_neg hz,AIz h.pw (by omega) (by omega),Option.bind_some]
  have hev: -(2^40:Int)≤Jw (2^40) P∧Jw (2^40) P≤(2^40:Int):=by
    unfold Jw
    have:min (H5 0 (P.dropWhile ([43,45]:List UInt8).contains)) (2^40)≤2^40:=Nat.min_le_right _ _
    split<;>omega
  generalize Jw (2^40) P=x at *
  have hw:wr .i64 (wr .i64 (wr .i64 (x-(F.length:Int))+(m1.length:Int))-(sh.length:Int))=x-(F.length:Int)+(m1.length:Int)-(sh.length:Int):=by
    rw[Ai (n:=x-(F.length:Int)) (by omega),Ai (n:=x-(F.length:Int)+(m1.length:Int)) (by omega),Ai (by omega)]
  rw[hw]
  generalize hy:x-(F.length:Int)+(m1.length:Int)-(sh.length:Int)=y at *
  have hsg:sg.length≤1:=by rcases h.sg with e|e<;>rw[e]<;>simp
  refine(CO (a:=decide (sh.length>40∨y< -400∨y>400)) fun k26=>?_).trans ?_
  · by_cases c1:(sh.length:Int)>40
    · rw[if_pos (decide_eq_true c1),decide_eq_true (.inl (by omega))]
    · rw[if_neg (by simpa using c1)]
      by_cases c2:y< -400
      · rw[if_pos (decide_eq_true c2),decide_eq_true (.inr (.inl c2))]
      · rw[if_neg (by simpa using c2)]
        congr 1
        simp only[eq_iff_iff,decide_eq_decide];omega
  try dsimp only
  by_cases hc:sh.length>40∨y< -400∨y>400
  · rw[if_pos (decide_eq_true hc),if_pos hc]
  rw[if_neg (by simpa using hc),if_neg hc]
  have hc': ¬(sh.length>40)∧ ¬y< -400∧ ¬y>400:=⟨fun h=>hc (.inl h),fun h=>hc (.inr (.inl h)),fun h=>hc (.inr (.inr h))⟩
  have hf:=Yi
  unfold AK0
  by_cases c1:y<0
  · rw[if_pos (decide_eq_true c1),if_pos c1,AY (by unfold BX;omega),AY (by unfold BX;simp;omega),Ai (by omega),P5 (by omega) (by omega),Qe _ (by omega) (by omega),Option.bind_some]
    have:=hf (0-y).toNat
    have:=hf (-y).toNat
    rw[AY (by unfold BX;simp;omega),show(0-y).toNat=(-y).toNat by omega]
    simp
  · rw[if_neg (by simpa using c1),if_neg c1]
    by_cases c2:y>0
    · have:=hf y.toNat
      rw[if_pos (decide_eq_true c2),if_pos c2,AY (by unfold BX;omega),AY (by unfold BX;simp;omega),P5 (by omega) (by omega),Qe _ (by omega) (by omega),Option.bind_some,AY (by unfold BX;simp;omega)]
      simp
    · rw[if_neg (by simpa using c2),if_neg c2,AY (by unfold BX;omega)]
      simp
end
end
end Go.VM
