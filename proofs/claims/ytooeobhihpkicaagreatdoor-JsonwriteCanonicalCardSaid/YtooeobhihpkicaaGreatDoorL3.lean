import Derived.Test.YtooeobhihpkicaaGreatDoorL2
set_option linter.unusedVariables false
set_option linter.unusedSimpArgs false
namespace Go.VM
section
variable{N:Nat}
def C9:Nat→List UInt8→Option Nat
  |0,_=>none
  |_+1,[]=>some 0
  | k+1,c::t=>
    match GY (c::t)with
    |some (_,n)=>(C9 k ((c::t).drop n)).map (· +1)
    |none=>none
def ABV (n:Nat):Option Nat→Int
  |some m=>((n+m:Nat):Int)
  |none=> -1
section
variable{l:List UInt8}
theorem O9 (hb:l.length≤2^50) (hN:5≤N): ∀(k:Nat) (t:List UInt8) (i n:Nat),l.drop i=t→i≤l.length→t.length<k→n≤i→Dh N l (fun j=>some j) k (n:Int) (i:Int)=some (ABV n (C9 k t))
  |0,t,i,n,ht,hi,hk,hn=>by omega
  | k+1,[],i,n,ht,hi,hk,hn=>by
    have hl:=DC ht hi
    simp only[List.length_nil]at hl
    have c: ¬(i:Int)<(l.length:Int):=by omega
    rw[Dh,if_neg (by simpa using c)];rfl
  | k+1,c::t,i,n,ht,hi,hk,hn=>by
    have hl:=DC ht hi
    simp only[List.length_cons]at hl hk
    have c0:(i:Int)<(l.length:Int):=by omega
    rw[Dh,if_pos (decide_eq_true c0),AGy hN (by omega) (by omega),Option.bind_some,ht,C9]
    cases hd:GY (c::t)with
    |none=>rfl
    | some p=>
      obtain⟨r,m⟩:=p
      obtain⟨e1,e2,_⟩:=JI hd
      simp only[List.length_cons]at e2
      rw[RZ,if_neg (by simp),Ak (by omega),show(n:Int)+1=((n+1:Nat):Int) by simp]
      rw[O9 hb hN k _ (i+m) (n+1) (by rw[←List.drop_drop,ht]) (by omega) (by rw[List.length_drop,List.length_cons];omega) (by omega)]
      simp only[]
      cases C9 k ((c::t).drop m)with
      |none=>rfl
      |some q=>simp only[ABV,Option.map_some];congr 1;omega
theorem Oc (hb:l.length≤2^50) (hN:l.length+5≤N):Ez N l=some (C9 N l).isSome:=by
  unfold Ez Ia
  rw[AR]
  have:=O9 (N:=N) hb (by omega) N l 0 0 (by simp) (by omega) (by omega) (by omega)
  rw[show(0:Int)=((0:Nat):Int)from rfl,this,Option.bind_some]
  cases C9 N l with
  |none=>rfl
  |some q=>simp[ABV]
end
def M8:List UInt8:=[48,49,50,51,52,53,54,55,56,57,97,98,99,100,101,102]
def qN (n:Nat):List UInt8:=
  if n=34 then [92,34]else if n=92 then [92,92]else if n=8 then [92,98]else if n=12 then [92,102]else if n=10 then [92,110]else if n=13 then [92,114]else if n=9 then [92,116]
  else if n<32 then [92,117,48,48,M8.getD (n / 16) 0,M8.getD (n % 16) 0]else [UInt8.ofNat n]
def qB (c:UInt8):List UInt8:=qN c.toNat
theorem AAf (c:UInt8):1≤(qB c).length∧(qB c).length≤6:=by
  unfold qB qN
  repeat' split
  all_goals simp
def gP (n:Nat):Option (List Int):=
  if decide (Go.Lib.indexByte ([34,92,8,12,10,13,9]:List UInt8) (UInt8.ofNat n)≥0)=true then(idx ([34,92,98,102,110,114,116]:List UInt8) (Go.Lib.indexByte ([34,92,8,12,10,13,9]:List UInt8) (UInt8.ofNat n))).map fun x=>[92,Am x]
  else if decide ((n:Int)<32)=true then(idx M8 (JO .u8 (n:Int) 4)).bind fun x=>(idx M8 (Dc .u8 (n:Int) 15)).map fun y=>[92,117,48,48,Am x,Am y]
  else some [(n:Int)]
theorem AMW (c:UInt8):gP c.toNat=some ((qB c).map Am):=FV (f:=gP) (g:=fun n=>some ((qN n).map Am)) (by kernel_rfl) c
theorem Zm (k4:List Int→Option (List UInt8×Int)) (c:UInt8) (xs:List UInt8) (s:List Int) (hs:s.length≤2^40):Cy N k4 (c::xs) s=Cy N k4 xs (s++(qB c).map Am):=by
  have key:=AMW c
  unfold gP at key
  simp only[UInt8.ofNat_toNat]at key
  rw[Cy]
  simp only[AR]
  rw[TP,Option.bind_some]
  by_cases h1:Go.Lib.indexByte ([34,92,8,12,10,13,9]:List UInt8) c≥0
  · rw[if_pos (decide_eq_true h1)]at key⊢
    rw[Option.map_eq_some_iff]at key
    obtain⟨x,hx,he⟩:=key
    rw[hx,Option.bind_some,AZ (by unfold FY;omega),←he]
  · rw[if_neg (by simpa using h1)]at key⊢
    by_cases h2:Am c<32
    · rw[←IX,if_pos (decide_eq_true h2)]at key
      rw[if_pos (decide_eq_true h2)]
      rw[Option.bind_eq_some_iff]at key
      obtain⟨x,hx,key⟩:=key
      rw[Option.map_eq_some_iff]at key
      obtain⟨y,hy,he⟩:=key
      rw[show([48,49,50,51,52,53,54,55,56,57,97,98,99,100,101,102]:List UInt8)=M8 from rfl,hx,Option.bind_some,hy,Option.bind_some,AZ (by unfold FY;omega),←he]
    · rw[←IX,if_neg (by simpa using h2)]at key
      rw[if_neg (by simpa using h2)]
      simp only[Option.some.injEq]at key
      rw[AZ (by unfold FY;omega),←key]
theorem PT (k4:List Int→Option (List UInt8×Int)): ∀(l:List UInt8) (s:List Int),s.length+6 * l.length≤2^40→Cy N k4 l s=k4 (s++(l.flatMap qB).map Am)
  |[],s,h=>by rw[Cy];simp
  | c::l,s,h=>by
    have hq:=AAf c
    simp only[List.length_cons]at h
    rw[Zm k4 c l s (by omega),PT k4 l _ (by rw[List.length_append,List.length_map];omega)]
    rw[List.flatMap_cons,List.map_append,List.append_assoc]
theorem Q0: ∀l:List UInt8,List.map IR (List.map Am l)=l
  |[]=>rfl
  |c::l=>by rw[List.map_cons,List.map_cons,Kl,Q0 l]
theorem q_len: ∀l:List UInt8,(l.flatMap qB).length≤6 * l.length
  |[]=>by simp
  | c::l=>by
    have:=q_len l
    have:=AAf c
    rw[List.flatMap_cons,List.length_append,List.length_cons];omega
def DT (l:List UInt8):List UInt8:=34::(l.flatMap qB++[34])
def V4 (N:Nat) (l:List UInt8):List UInt8×Int:=if l.length>1048576 then([],5)else if(C9 N l).isSome=true then(DT l,0)else([],7)
theorem ADt (l:List UInt8) (h:l.length≤1048576):(grd (FY (([34]++(l.flatMap qB).map Am:List Int).length+1) 1) (some ((List.map IR (([34]++(l.flatMap qB).map Am)++[34])),(0:Int))))=some (DT l,0):=by
  have:=q_len l
  rw[AZ (by unfold FY;simp only[List.length_append,List.length_map,List.length_cons,List.length_nil];omega)]
  rw[List.map_append,List.map_append,Q0];rfl
theorem AEe (l:List UInt8) (hN:l.length+5≤N∨1048576<l.length):JF N l=some (V4 N l):=by
  unfold JF V4
  by_cases h:l.length>1048576
  · have:(l.length:Int)>1048576:=by omega
    rw[if_pos (decide_eq_true this),if_pos h]
  · have h': ¬(l.length:Int)>1048576:=by omega
    rw[if_neg (by simpa using h'),if_neg h,Oc (by omega) (by omega),Option.bind_some]
    by_cases hv:(C9 N l).isSome=true
    · rw[if_pos hv,if_pos hv,AR,AZ (by unfold Bf;omega),PT _ l [34] (by simp;omega)]
      exact ADt l (by omega)
    · rw[if_neg hv,if_neg hv]
end
end Go.VM
namespace Go.VM
theorem AL4 (a b:UInt8):a<b∨a=b∨b<a:=by
  rcases Nat.lt_trichotomy a.toNat b.toNat with h|h|h
  · exact .inl (UInt8.lt_iff_toNat_lt.2 h)
  · exact .inr (.inl (UInt8.toNat_inj.1 h))
  · exact .inr (.inr (UInt8.lt_iff_toNat_lt.2 h))
theorem AKw (a:UInt8): ¬a<a:=fun h=>Nat.lt_irrefl _ (UInt8.lt_iff_toNat_lt.1 h)
theorem AMj{a b c:UInt8} (h:a<b) (k:b<c):a<c:=UInt8.lt_iff_toNat_lt.2 (Nat.lt_trans (UInt8.lt_iff_toNat_lt.1 h) (UInt8.lt_iff_toNat_lt.1 k))
theorem AA6: ∀a b:List UInt8,Op.bytesLess a b=true∨a=b∨Op.bytesLess b a=true
  |[],[]=>.inr (.inl rfl)
  |[],_::_=>.inl (by simp[Op.bytesLess])
  |_::_,[]=>.inr (.inr (by simp[Op.bytesLess]))
  | a::x,b::y=>by
    simp only[Op.bytesLess,Bool.or_eq_true,decide_eq_true_eq,Bool.and_eq_true,beq_iff_eq]
    rcases AL4 a b with h|rfl|h
    · exact .inl (.inl h)
    · rcases AA6 x y with h|rfl|h
      · exact .inl (.inr ⟨rfl,h⟩)
      · exact .inr (.inl rfl)
      · exact .inr (.inr (.inr ⟨rfl,h⟩))
    · exact .inr (.inr (.inl h))
theorem AA0: ∀a:List UInt8,Op.bytesLess a a=false
  |[]=>rfl
  |a::x=>by simp[Op.bytesLess,AKw,AA0 x]
theorem AB3: ∀ {a b c:List UInt8},Op.bytesLess a b=true→Op.bytesLess b c=true→Op.bytesLess a c=true
  |[],[],_,h,_=>by simp[Op.bytesLess]at h
  |[],_::_,[],_,k=>by simp[Op.bytesLess]at k
  |[],_::_,_::_,_,_=>by simp[Op.bytesLess]
  |_::_,[],_,h,_=>by simp[Op.bytesLess]at h
  |_::_,_::_,[],_,k=>by simp[Op.bytesLess]at k
  | a::x,b::y,c::z,h,k=>by
    simp only[Op.bytesLess,Bool.or_eq_true,decide_eq_true_eq,Bool.and_eq_true,beq_iff_eq]at h k⊢
    rcases h with h|⟨rfl,h⟩
    · rcases k with k|⟨rfl,k⟩
      · exact .inl (AMj h k)
      · exact .inl h
    · rcases k with k|⟨rfl,k⟩
      · exact .inl k
      · exact .inr ⟨rfl,AB3 h k⟩
def leB (a b:List UInt8):Bool:=Op.bytesLess a b||a==b
theorem AED (a b:List UInt8):(leB a b||leB b a)=true:=by
  unfold leB
  rcases AA6 a b with h|rfl|h<;>simp[*]
theorem ACy (a b c:List UInt8) (h:leB a b=true) (k:leB b c=true):leB a c=true:=by
  unfold leB at *
  simp only[Bool.or_eq_true,beq_iff_eq]at *
  rcases h with h|rfl
  · rcases k with k|rfl
    · exact .inl (AB3 h k)
    · exact .inl h
  · exact k
theorem AGv{a b:List UInt8} (h:leB a b=true) (k:leB b a=true):a=b:=by
  unfold leB at *
  simp only[Bool.or_eq_true,beq_iff_eq]at *
  rcases h with h|rfl
  · rcases k with k|rfl
    · have:=AB3 h k;rw[AA0]at this;cases this
    · rfl
  · rfl
def Asc (l:List (List UInt8)):Prop:=l.Pairwise fun a b=>leB a b=true
theorem Re{l m:List (List UInt8)} (hp:l.Perm m) (h1:Asc l) (h2:Asc m):l=m:=
  List.Perm.eq_of_pairwise (le:=fun a b=>leB a b=true) (fun a b _ _=>AGv) h1 h2 hp
def Il (l:List (List UInt8)):List (List UInt8):=l.mergeSort leB
theorem Dw (l:List (List UInt8)):(Il l).Perm l:=List.mergeSort_perm l leB
theorem OY (l:List (List UInt8)):Asc (Il l):=List.pairwise_mergeSort ACy AED l
section
variable{N:Nat}
def Jn (N:Nat) (l:List (List UInt8)):Bool:=decide l.Nodup&&l.all fun k=>(C9 N k).isSome
end
end Go.VM
namespace Go.VM
def at0 (d:List Int) (i:Nat):Int:=d.getD i 0
def swD (d:List Int) (i j:Nat):List Int:=(d.set i (at0 d j)).set j (at0 d i)
section
variable{d d' e:List Int}{a b i j k n:Nat}
theorem EU:(swD d i j).length=d.length:=by simp[swD]
theorem Qr (h:i<d.length):at0 d i=d[i]:=by simp[at0,h]
theorem Hd (hi:i<d.length) (hj:j<d.length):at0 (swD d i j) k=if k=j then at0 d i else if k=i then at0 d j else at0 d k:=by
  unfold at0 swD
  rw[List.getD_eq_getElem?_getD]
  by_cases h:k=j
  · subst h;rw[if_pos rfl,List.getElem?_set_self (by simpa using hj)];rfl
  · rw[if_neg h,List.getElem?_set_ne (fun e=>h e.symm)]
    by_cases h2:k=i
    · subst h2;rw[if_pos rfl,List.getElem?_set_self hi];rfl
    · rw[if_neg h2,List.getElem?_set_ne (fun e=>h2 e.symm),←List.getD_eq_getElem?_getD]
theorem KJ (h:i<d.length):idx d (i:Int)=some (at0 d i):=by
  rw[Ny,List.getElem?_eq_getElem h,Qr h]
theorem AIz (hi:i<d.length) (hj:j<d.length):(swD d i j).Perm d:=by
  rw[List.perm_iff_count]
  intro x
  unfold swD
  rw[Qr hi,Qr hj]
  have hj':j<(d.set i d[j]).length:=by simpa using hj
  rw[List.count_set hj',List.count_set hi,List.getElem_set]
  have p1:(d[i]==x)=true→0<d.count x:=fun h=>List.count_pos_iff.2 (by rw[←beq_iff_eq.1 h];exact List.getElem_mem hi)
  have p2:(d[j]==x)=true→0<d.count x:=fun h=>List.count_pos_iff.2 (by rw[←beq_iff_eq.1 h];exact List.getElem_mem hj)
  by_cases e:i=j
  · subst e
    rw[if_pos rfl]
    split<;>simp_all<;>omega
  · rw[if_neg e]
    cases h1:d[i]==x<;>cases h2:d[j]==x<;>simp_all<;>omega
inductive Sw (a b:Nat):List Int→List Int→Prop
  |refl (d:List Int):Sw a b d d
  |step{d d':List Int} (h:Sw a b d d') (i j:Nat) (hi:a≤i∧i<b) (hj:a≤j∧j<b):Sw a b d (swD d' i j)
theorem Sw.one (hi:a≤i∧i<b) (hj:a≤j∧j<b):Sw a b d (swD d i j):=.step (.refl d) i j hi hj
theorem Sw.trans (h:Sw a b d d') (k:Sw a b d' e):Sw a b d e:=by
  induction k with
  |refl=>exact h
  |step _ i j hi hj ih=>exact .step ih i j hi hj
theorem Sw.mono{a' b':Nat} (h:Sw a b d d') (ha:a'≤a) (hb:b≤b'):Sw a' b' d d':=by
  induction h with
  |refl=>exact .refl _
  |step _ i j hi hj ih=>exact .step ih i j (by omega) (by omega)
theorem Sw.len (h:Sw a b d d'):d'.length=d.length:=by
  induction h with
  |refl=>rfl
  |step _ i j hi hj ih=>rw[EU,ih]
theorem Sw.out (h:Sw a b d d') (hb:b≤d.length) (hk:k<a∨b≤k):at0 d' k=at0 d k:=by
  induction h with
  |refl=>rfl
  | step h i j hi hj ih=>
    have:=h.len
    rw[Hd (by omega) (by omega),if_neg (by omega),if_neg (by omega),ih]
theorem Sw.all (h:Sw a b d d') (hb:b≤d.length){p:Int→Prop} (hp: ∀k,a≤k→k<b→p (at0 d k)): ∀k,a≤k→k<b→p (at0 d' k):=by
  induction h with
  |refl=>exact hp
  | step h i j hi hj ih=>
    intro k k1 k2
    have:=h.len
    rw[Hd (by omega) (by omega)]
    split
    · exact ih i hi.1 hi.2
    · split
      · exact ih j hj.1 hj.2
      · exact ih k k1 k2
theorem Sw.perm (h:Sw a b d d') (hb:b≤d.length):d'.Perm d:=by
  induction h with
  |refl=>exact .refl _
  | step h i j hi hj ih=>
    have:=h.len
    exact(AIz (by omega) (by omega)).trans ih
end
def kth (c:ApiValue) (x:Int):List UInt8:=c.keys.getD x.toNat []
def ltI (c:ApiValue) (x y:Int):Bool:=Op.bytesLess (kth c x) (kth c y)
theorem AJ5 (c:ApiValue) (x:Int):ltI c x x=false:=AA0 _
theorem OW{c:ApiValue}{x y z:Int} (h:ltI c x y=true) (k:ltI c y z=true):ltI c x z=true:=AB3 h k
theorem AK5{c:ApiValue}{x y:Int} (h:ltI c x y=true):ltI c y x=false:=by
  cases e:ltI c y x
  · rfl
  · have:=OW h e;rw[AJ5]at this;cases this
structure Row (c:ApiValue) (d:List Int):Prop where
  big:d.length≤2000
  rng: ∀i,i<d.length→0≤at0 d i∧(at0 d i).toNat<c.keys.length
  dis: ∀i j,i<d.length→j<d.length→i≠j→ltI c (at0 d i) (at0 d j)=true∨ltI c (at0 d j) (at0 d i)=true
section
variable{N:Nat}{c:ApiValue}{d d':List Int}{a b i j l0:Nat}
theorem Row.sw (h:Row c d) (hi:i<d.length) (hj:j<d.length):Row c (swD d i j):=by
  refine⟨by rw[EU];exact h.big,fun k hk=>?_,fun k l hk hl hne=>?_⟩
  · rw[EU]at hk
    rw[Hd hi hj]
    split
    · exact h.rng i hi
    · split
      · exact h.rng j hj
      · exact h.rng k hk
  · rw[EU]at hk hl
    rw[Hd hi hj,Hd hi hj]
    split<;>split<;>(try split)<;>(try split)<;>first|(exact absurd (by omega) hne)|exact h.dis _ _ (by omega) (by omega) (by omega)
theorem Sw.row (h:Sw a b d d') (hb:b≤d.length) (k:Row c d):Row c d':=by
  induction h with
  |refl=>exact k
  | step h i j hi hj ih=>
    have:=h.len
    exact ih.sw (by omega) (by omega)
theorem Row.gt (h:Row c d) (hi:i<d.length) (hj:j<d.length) (hne:i≠j) (hn:ltI c (at0 d i) (at0 d j)=false):ltI c (at0 d j) (at0 d i)=true:=by
  rcases h.dis i j hi hj hne with e|e
  · rw[hn]at e;cases e
  · exact e
def AJ0 (c:ApiValue) (x y:Int):Int:=if Op.bytesLess (kth c x) (kth c y)=true then-1 else if(kth c x==kth c y)=true then 0 else 1
theorem Hr (x y:Int):decide (AJ0 c x y<0)=ltI c x y:=by
  unfold AJ0 ltI
  cases Op.bytesLess (kth c x) (kth c y)
  · simp only[Bool.false_eq_true,if_false];split<;>decide
  · simp
theorem cmp_eq (h:Row c d) (i j:Nat) (hi:i<d.length) (hj:j<d.length):BS N (at0 d i) (at0 d j) c=some (AJ0 c (at0 d i) (at0 d j)):=by
  have key: ∀k,k<d.length→idx c.keys (at0 d k)=some (kth c (at0 d k)):=fun k hk=>by
    obtain⟨h1,h2⟩:=h.rng k hk
    unfold idx kth
    rw[if_pos h1,List.getElem?_eq_getElem h2,List.getD_eq_getElem?_getD,List.getElem?_eq_getElem h2];rfl
  unfold BS GJ cmp_isNaN_string
  rw[key i hi,key j hj]
  simp only[Option.bind_some,beq_self_eq_true,Bool.not_true,Bool.false_eq_true,if_false]
  unfold AJ0
  split
  · rfl
  · split<;>rfl
def Asc' (c:ApiValue) (a b:Nat) (d:List Int):Prop:= ∀p q,a≤p→p<q→q<b→ltI c (at0 d p) (at0 d q)=true
def InsI (c:ApiValue) (a i s:Nat) (d:List Int):Prop:= ∀p q,a≤p→p<q→q≤i→q≠s→ltI c (at0 d p) (at0 d q)=true
theorem InsI.step (hi:i<d.length){t:Nat} (ht:a≤t) (hti:t+1≤i) (h:InsI c a i (t+1) d) (hl:ltI c (at0 d (t+1)) (at0 d t)=true):InsI c a i t (swD d (t+1) t):=by
  intro p q h1 h2 h3 h4
  rw[Hd (by omega) (by omega),Hd (by omega) (by omega),if_neg h4]
  by_cases e1:q=t+1
  · subst e1
    rw[if_pos rfl]
    by_cases e2:p=t
    · rw[if_pos e2];exact hl
    · rw[if_neg e2,if_neg (by omega)]
      exact h p t h1 (by omega) (by omega) (by omega)
  · rw[if_neg e1]
    by_cases e2:p=t
    · rw[if_pos e2];exact h (t+1) q (by omega) (by omega) h3 e1
    · rw[if_neg e2]
      by_cases e3:p=t+1
      · rw[if_pos e3];exact h t q ht (by omega) h3 e1
      · rw[if_neg e3];exact h p q h1 h2 h3 e1
theorem InsI.done (hr:Row c d) (hi:i<d.length){s:Nat} (hs:a≤s) (hsi:s≤i) (h:InsI c a i s d) (hl:s=a∨ ∃t,s=t+1∧a≤t∧ltI c (at0 d s) (at0 d t)=false):Asc' c a (i+1) d:=by
  intro p q h1 h2 h3
  by_cases e:q=s
  · subst e
    rcases hl with rfl|⟨t,rfl,ht,hl⟩
    · omega
    · have hg:=hr.gt (by omega) (by omega) (by omega) hl
      by_cases e2:p=t
      · rw[e2];exact hg
      · exact OW (h p t h1 (by omega) (by omega) (by omega)) hg
  · exact h p q h1 h2 (by omega) e
theorem Ty (k3:List Int→Option (List Int)) (hi:i<l0): ∀(s k:Nat) (d:List Int),a≤s→s≤i→d.length=l0→s<k→Row c d→InsI c a i s d→
    ∃d',Au N l0 (a:Int) c k3 k (s:Int) d=k3 d'∧Sw a (i+1) d d'∧Asc' c a (i+1) d'
  |s,0,d,_,_,_,hk,_,_=>by omega
  | s,k+1,d,h1,h2,hl,hk,hr,hI=>by
    have hb:=hr.big
    rw[Au]
    simp only[AR]
    by_cases hs:s=a
    · subst hs
      rw[if_neg (by simp),if_neg (by decide)]
      exact⟨d,rfl,.refl d,hI.done hr (by omega) h1 h2 (.inl rfl)⟩
    · obtain⟨t,rfl⟩: ∃t,s=t+1:=⟨s-1,by omega⟩
      have e1:((t+1:Nat):Int)-1=(t:Int):=by omega
      have hc:=cmp_eq (N:=N) hr
      rw[if_pos (by simp only[decide_eq_true_eq];omega)]
      simp(disch:=omega) only[e1,Ak,AZ,KJ,Option.bind_some,hc,Hr,Int.toNat_natCast]
      cases hlt:ltI c (at0 d (t+1)) (at0 d t)
      · rw[if_neg (by decide)]
        exact⟨d,rfl,.refl d,hI.done hr (by omega) h1 h2 (.inr ⟨t,rfl,by omega,hlt⟩)⟩
      · rw[if_pos rfl]
        obtain⟨d',f1,f2,f3⟩:=Ty k3 hi t k (swD d (t+1) t) (by omega) (by omega) (by rw[EU];exact hl) (by omega) (hr.sw (by omega) (by omega)) (hI.step (by omega) (by omega) (by omega) hlt)
        exact⟨d',f1,(Sw.one (by omega) (by omega)).trans f2,f3⟩
theorem Tw (hb:b≤l0) (hN:b<N): ∀(m i:Nat) (d:List Int),a<i→i+m=b→d.length=l0→Row c d→Asc' c a i d→
    ∃d',AQ N l0 (a:Int) c m (i:Int) d=some d'∧Sw a b d d'∧Asc' c a b d'
  | 0,i,d,_,h2,_,_,hA=>by
    rw[AQ]
    exact⟨d,rfl,.refl d,by rw[←h2];exact hA⟩
  | m+1,i,d,h1,h2,hl,hr,hA=>by
    rw[AQ]
    simp only[AR]
    obtain⟨d1,f1,f2,f3⟩:=Ty (N:=N) (a:=a) (c:=c) (fun j2=>AQ N l0 (a:Int) c m ((i:Int)+1) j2) (show i<l0 by omega) i N d (by omega) (by omega) hl (by omega) hr (fun p q k1 k2 k3 k4=>hA p q k1 k2 (by omega))
    rw[f1]
    have hr1:=f2.row (by omega) hr
    obtain⟨d2,g1,g2,g3⟩:=Tw hb hN m (i+1) d1 (by omega) (by omega) (by rw[f2.len];exact hl) hr1 f3
    exact⟨d2,g1,(f2.mono (by omega) (by omega)).trans g2,g3⟩
theorem ALE (h:Row c d) (hab:a<b) (hb:b≤d.length) (hN:b<N):Ok (Az N d.length d a b c) fun d'=>Sw a b d d'∧Asc' c a b d':=by
  have hbig:=h.big
  unfold Az
  rw[show(a:Int)+1=((a+1:Nat):Int) by simp,Hw (by omega),AZ (by omega),show(((b:Nat):Int)-((a+1:Nat):Int)).toNat=b-(a+1) by omega]
  obtain⟨d',f1,f2,f3⟩:=Tw (N:=N) (c:=c) (a:=a) hb hN (b-(a+1)) (a+1) d (by omega) (by omega) rfl h (fun p q k1 k2 k3=>by omega)
  exact⟨d',f1,f2,f3⟩
end
end Go.VM
namespace Go.VM
def HF (c:ApiValue) (a lo hi:Nat) (d:List Int):Prop:= ∀r ch,lo≤r→(ch=2 * r+1∨ch=2 * r+2)→ch<hi→ltI c (at0 d (a+ch)) (at0 d (a+r))=true
structure HP (c:ApiValue) (a lo hi r0:Nat) (d:List Int):Prop where
  own: ∀r ch,lo≤r→r≠r0→(ch=2 * r+1∨ch=2 * r+2)→ch<hi→ltI c (at0 d (a+ch)) (at0 d (a+r))=true
  up: ∀r ch,lo≤r→(r0=2 * r+1∨r0=2 * r+2)→(ch=2 * r0+1∨ch=2 * r0+2)→ch<hi→ltI c (at0 d (a+ch)) (at0 d (a+r))=true
section
variable{N:Nat}{c:ApiValue}{d d':List Int}{a b lo hi l0 r:Nat}
theorem HP.swap (h:HP c a lo hi r d){m:Nat} (hlen:a+hi≤d.length) (hlo:lo≤r) (hm:m=2 * r+1∨m=2 * r+2) (hmh:m<hi) (hlt:ltI c (at0 d (a+r)) (at0 d (a+m))=true)
    (hmax: ∀o,(o=2 * r+1∨o=2 * r+2)→o<hi→o≠m→ltI c (at0 d (a+o)) (at0 d (a+m))=true):HP c a lo hi m (swD d (a+r) (a+m)):=by
  have rd: ∀x,at0 (swD d (a+r) (a+m)) (a+x)=if x=m then at0 d (a+r)else if x=r then at0 d (a+m)else at0 d (a+x):=fun x=>by
    rw[Hd (by omega) (by omega)]
    by_cases e1:x=m
    · rw[if_pos (by omega),if_pos e1]
    · by_cases e2:x=r
      · rw[if_neg (by omega),if_pos (by omega),if_neg e1,if_pos e2]
      · rw[if_neg (by omega),if_neg (by omega),if_neg e1,if_neg e2]
  constructor
  · intro x ch h1 h2 h3 h4
    rw[rd,rd,if_neg h2]
    by_cases e1:x=r
    · subst e1
      rw[if_pos rfl]
      by_cases e2:ch=m
      · rw[if_pos e2];exact hlt
      · rw[if_neg e2,if_neg (by omega)];exact hmax ch h3 h4 e2
    · rw[if_neg e1,if_neg (by omega)]
      by_cases e3:ch=r
      · subst e3;rw[if_pos rfl];exact h.up x m h1 h3 hm hmh
      · rw[if_neg e3];exact h.own x ch h1 e1 h3 h4
  · intro x ch h1 h2 h3 h4
    have:x=r:=by omega
    subst this
    rw[rd,rd,if_neg (by omega),if_neg (by omega),if_neg (by omega),if_pos rfl]
    exact h.own m ch (by omega) (by omega) h3 h4
theorem HP.done (h:HP c a lo hi r d) (hr: ∀ch,(ch=2 * r+1∨ch=2 * r+2)→ch<hi→ltI c (at0 d (a+ch)) (at0 d (a+r))=true):HF c a lo hi d:=by
  intro x ch h1 h2 h3
  by_cases e:x=r
  · subst e;exact hr ch h2 h3
  · exact h.own x ch h1 e h2 h3
theorem Su (hb:a+hi≤l0): ∀(k r:Nat) (d:List Int),lo≤r→hi+1≤r+k→1≤k→d.length=l0→Row c d→HP c a lo hi r d→r≤hi→
    Ok (Ar N l0 (hi:Int) (a:Int) c k (r:Int) d) fun d'=>Sw a (a+hi) d d'∧HF c a lo hi d'
  |0,r,d,_,_,hk,_,_,_,_=>by omega
  | k+1,r,d,h1,h2,_,hl,hr,hp,hrh=>by
    have hbig:=hr.big
    have hc:=cmp_eq (N:=N) hr
    have e2:(2:Int) * (r:Int)=((2 * r:Nat):Int):=by omega
    have e3:((2 * r:Nat):Int)+1=((2 * r+1:Nat):Int):=by omega
    have e4:((2 * r+1:Nat):Int)+1=((2 * r+2:Nat):Int):=by omega
    have e5:(a:Int)+((2 * r+1:Nat):Int)=((a+(2 * r+1):Nat):Int):=by omega
    have e6:((a+(2 * r+1):Nat):Int)+1=((a+(2 * r+2):Nat):Int):=by omega
    have e7:(a:Int)+(r:Int)=((a+r:Nat):Int):=by omega
    rw[Ar]
    simp only[AR]
    by_cases hch:2 * r+1≥hi
    · simp(disch:=omega) only[e2,e3,Ak]
      rw[if_pos (by simp only[decide_eq_true_eq];omega)]
      exact Ok.ret ⟨.refl d,hp.done fun ch k1 k2=>by omega⟩
    ·
      have main: ∀m:Nat,(m=2 * r+1∨m=2 * r+2)→m<hi→(∀o,(o=2 * r+1∨o=2 * r+2)→o<hi→o≠m→ltI c (at0 d (a+o)) (at0 d (a+m))=true)→
          Ok (if ltI c (at0 d (a+r)) (at0 d (a+m))=true then Ar N l0 (hi:Int) (a:Int) c k (m:Int) (swD d (a+r) (a+m))else some d) fun d'=>Sw a (a+hi) d d'∧HF c a lo hi d':=by
        intro m hm hmh hmax
        cases hlt:ltI c (at0 d (a+r)) (at0 d (a+m))
        · have hg:=hr.gt (i:=a+r) (j:=a+m) (by omega) (by omega) (by omega) hlt
          rw[if_neg (by decide)]
          refine Ok.ret ⟨.refl d,hp.done fun ch k1 k2=>?_⟩
          by_cases e:ch=m
          · subst e;exact hg
          · exact OW (hmax ch k1 k2 e) hg
        · rw[if_pos rfl]
          refine(Su hb k m (swD d (a+r) (a+m)) (by omega) (by omega) (by omega) (by rw[EU];exact hl) (hr.sw (by omega) (by omega)) (hp.swap (by omega) h1 hm hmh hlt hmax) (by omega)).mono fun d' hd=>⟨(Sw.one (by omega) (by omega)).trans hd.1,hd.2⟩
      have e8: ∀m:Nat,(a:Int)+(m:Int)=((a+m:Nat):Int):=fun m=>by omega
      by_cases h22:2 * r+2<hi
      · simp(disch:=omega) only[e2,e3,e4,e5,e6,Ak,AZ,KJ,Option.bind_some,hc,Hr,Int.toNat_natCast]
        rw[if_neg (by simp only[decide_eq_true_eq];omega),if_pos (by simp only[decide_eq_true_eq];omega)]
        cases hx:ltI c (at0 d (a+(2 * r+1))) (at0 d (a+(2 * r+2)))
        · rw[if_neg (by decide)]
          have:=main (2 * r+1) (.inl rfl) (by omega) fun o o1 o2 o3=>by
            have:o=2 * r+2:=by omega
            subst this
            exact hr.gt (i:=a+(2 * r+1)) (j:=a+(2 * r+2)) (by omega) (by omega) (by omega) hx
          simpa(disch:=omega) only[swD,e7,e8,Ak,AZ,KJ,Option.bind_some,hc,Hr,Int.toNat_natCast]using this
        · rw[if_pos rfl]
          have:=main (2 * r+2) (.inr rfl) (by omega) fun o o1 o2 o3=>by
            have:o=2 * r+1:=by omega
            subst this
            exact hx
          simpa(disch:=omega) only[swD,e7,e8,Ak,AZ,KJ,Option.bind_some,hc,Hr,Int.toNat_natCast]using this
      · simp(disch:=omega) only[e2,e3,e4,Ak]
        rw[if_neg (by simp only[decide_eq_true_eq];omega),if_neg (by simp only[decide_eq_true_eq];omega),if_neg (by decide)]
        have:=main (2 * r+1) (.inl rfl) (by omega) fun o o1 o2 o3=>by omega
        simpa(disch:=omega) only[swD,e7,e8,Ak,AZ,KJ,Option.bind_some,hc,Hr,Int.toNat_natCast]using this
theorem ACO (hb:a+hi≤d.length) (hr:Row c d) (hN:hi+1≤N) (hlo:lo≤hi) (hp:HP c a lo hi lo d):Ok (BN N d.length d (lo:Int) (hi:Int) (a:Int) c) fun d'=>Sw a (a+hi) d d'∧HF c a lo hi d':=by
  unfold BN
  exact Su hb N lo d (Nat.le_refl _) (by omega) (by omega) rfl hr hp hlo
theorem HF.top (h:HF c a 0 hi d): ∀k,0<k→k<hi→ltI c (at0 d (a+k)) (at0 d a)=true:=by
  intro k
  induction k using Nat.strongRecOn with
  | _ k ih=>
    intro h0 h1
    obtain⟨p,hp⟩: ∃p,k=2 * p+1∨k=2 * p+2:=⟨(k-1) / 2,by omega⟩
    have:=h p k (by omega) hp h1
    by_cases e:p=0
    · subst e;exact this
    · exact OW this (ih p (by omega) (by omega) (by omega))
theorem QW (k2:List Int→Option (List Int)){Q:List Int→Prop} (hb:a+hi≤l0) (hbN:hi+1≤N) (hab:(b:Int)=a+hi) (hbig:l0≤2000) (hk2: ∀d',d'.length=l0→Row c d'→HF c a 0 hi d'→Ok (k2 d') fun d''=>Sw a (a+hi) d' d''∧Q d''): ∀(m k:Nat) (d:List Int),m<k→m≤hi→d.length=l0→Row c d→HF c a m hi d→
    Ok (Ap N l0 (a:Int) (b:Int) c k2 k ((m:Int)-1) d) fun d'=>Sw a (a+hi) d d'∧Q d'
  |m,0,d,h,_,_,_,_=>by omega
  | 0,k+1,d,_,_,hl,hr,hh=>by
    rw[Ap,if_neg (by simp)]
    exact hk2 d hl hr hh
  | m+1,k+1,d,h1,h2,hl,hr,hh=>by
    have e1:((m+1:Nat):Int)-1=(m:Int):=by omega
    have e2:(b:Int)-(a:Int)=(hi:Int):=by omega
    rw[Ap,e1,if_pos (by simp),e2,Ak (by omega),Ak (by omega)]
    have hs:=ACO (N:=N) (c:=c) (d:=d) (a:=a) (lo:=m) (hi:=hi) (by omega) hr hbN (by omega) ⟨fun r ch k1 k2 k3 k4=>hh r ch (by omega) k3 k4,fun r ch k1 k2 k3 k4=>by omega⟩
    rw[hl]at hs
    refine hs.bind fun d1 hd=>?_
    refine(QW k2 hb hbN hab hbig hk2 m k d1 (by omega) (by omega) (by rw[hd.1.len];exact hl) (hd.1.row (by omega) hr) hd.2).mono fun d' h'=>⟨hd.1.trans h'.1,h'.2⟩
theorem Za (hb:a+hi≤l0) (hbN:hi+1≤N) (hbig:l0≤2000): ∀(m k:Nat) (d:List Int),m<k→m≤hi→d.length=l0→Row c d→HF c a 0 m d→(∀p q,p<q→m≤q→q<hi→ltI c (at0 d (a+p)) (at0 d (a+q))=true)→
    Ok (Aq N l0 (a:Int) c k ((m:Int)-1) d) fun d'=>Sw a (a+hi) d d'∧Asc' c a (a+hi) d'
  |m,0,d,h,_,_,_,_,_=>by omega
  | 0,k+1,d,_,_,hl,hr,hh,hs=>by
    rw[Aq,if_neg (by simp)]
    refine Ok.ret ⟨.refl d,fun p q h1 h2 h3=>?_⟩
    obtain⟨p,rfl⟩: ∃x,p=a+x:=⟨p-a,by omega⟩
    obtain⟨q,rfl⟩: ∃x,q=a+x:=⟨q-a,by omega⟩
    exact hs p q (by omega) (by omega) (by omega)
  | m+1,k+1,d,h1,h2,hl,hr,hh,hs=>by
    have e1:((m+1:Nat):Int)-1=(m:Int):=by omega
    have e7:(a:Int)+(m:Int)=((a+m:Nat):Int):=by omega
    rw[Aq,e1,if_pos (by simp)]
    simp(disch:=omega) only[e7,Ak,AZ,KJ,Option.bind_some,Int.toNat_natCast]
    have esw:(d.set a (at0 d (a+m))).set (a+m) (at0 d a)=swD d a (a+m):=rfl
    rw[esw]
    have rd: ∀x,at0 (swD d a (a+m)) (a+x)=if x=m then at0 d a else if x=0 then at0 d (a+m)else at0 d (a+x):=fun x=>by
      rw[Hd (by omega) (by omega)]
      by_cases e1:x=m
      · rw[if_pos (by omega),if_pos e1]
      · by_cases e2:x=0
        · rw[if_neg (by omega),if_pos (by omega),if_neg e1,if_pos e2]
        · rw[if_neg (by omega),if_neg (by omega),if_neg e1,if_neg e2]
    have hr1:=hr.sw (i:=a) (j:=a+m) (by omega) (by omega)
    have hsi:=ACO (N:=N) (c:=c) (d:=swD d a (a+m)) (a:=a) (lo:=0) (hi:=m) (by rw[EU];omega) hr1 (by omega) (by omega) ⟨fun r ch k1 k2 k3 k4=>by
        rw[rd,rd,if_neg (by omega),if_neg (by omega),if_neg (by omega),if_neg (by omega)]
        exact hh r ch k1 k3 (by omega),fun r ch k1 k2 k3 k4=>by omega⟩
    rw[EU,hl]at hsi
    refine hsi.bind fun d1 hd=>?_
    have htop:=hh.top
    have hord: ∀p q,p<q→m≤q→q<hi→ltI c (at0 d1 (a+p)) (at0 d1 (a+q))=true:=by
      intro p q p1 p2 p3
      have oq:at0 d1 (a+q)=at0 (swD d a (a+m)) (a+q):=hd.1.out (by rw[EU];omega) (.inr (by omega))
      have less: ∀x,x<q→ltI c (at0 (swD d a (a+m)) (a+x)) (at0 (swD d a (a+m)) (a+q))=true:=by
        intro x hx
        rw[rd,rd]
        by_cases eq:q=m
        · subst eq
          rw[if_pos rfl,if_neg (by omega)]
          by_cases ex:x=0
          · rw[if_pos ex];exact htop q (by omega) (by omega)
          · rw[if_neg ex];exact htop x (by omega) (by omega)
        · rw[if_neg eq,if_neg (by omega: ¬q=0)]
          by_cases ex:x=m
          · rw[if_pos ex];exact hs 0 q (by omega) (by omega) p3
          · rw[if_neg ex]
            by_cases ex0:x=0
            · rw[if_pos ex0];exact hs m q (by omega) (by omega) p3
            · rw[if_neg ex0];exact hs x q hx (by omega) p3
      rw[oq]
      by_cases hpm:p<m
      · exact hd.1.all (by rw[EU];omega) (p:=fun v=>ltI c v (at0 (swD d a (a+m)) (a+q))=true) (fun x x1 x2=>by
          obtain⟨y,rfl⟩: ∃y,x=a+y:=⟨x-a,by omega⟩
          exact less y (by omega)) (a+p) (by omega) (by omega)
      · have op:at0 d1 (a+p)=at0 (swD d a (a+m)) (a+p):=hd.1.out (by rw[EU];omega) (.inr (by omega))
        rw[op];exact less p p1
    refine(Za hb hbN hbig m k d1 (by omega) (by omega) (by rw[hd.1.len,EU];exact hl) (hd.1.row (by rw[EU];omega) hr1) hd.2 hord).mono fun d' h'=>⟨((Sw.one (by omega) (by omega)).trans (hd.1.mono (Nat.le_refl _) (by omega))).trans h'.1,h'.2⟩
theorem AJQ (h:Row c d) (hab:a<b) (hb:b≤d.length) (hN:b+2≤N):Ok (Bd N d.length d (a:Int) (b:Int) c) fun d'=>Sw a b d d'∧Asc' c a b d':=by
  have hbig:=h.big
  obtain⟨hi,rfl⟩: ∃x,b=a+x:=⟨b-a,by omega⟩
  unfold Bd
  simp only[AR]
  have e1:((a+hi:Nat):Int)-(a:Int)=(hi:Int):=by omega
  have e2:((hi:Int)-1).tdiv 2=(((hi-1) / 2+1:Nat):Int)-1:=by
    rw[show(hi:Int)-1=((hi-1:Nat):Int) by omega,show((hi-1:Nat):Int).tdiv 2=(((hi-1) / 2:Nat):Int)from rfl];omega
  rw[e1,Ak (n:=(hi:Int)) (by omega),Ak (n:=(hi:Int)-1) (by omega),e2,Ak (by omega)]
  exact QW (N:=N) (c:=c) (a:=a) (hi:=hi) (b:=a+hi) _ (Q:=fun d'=>Asc' c a (a+hi) d') hb (by omega) (by omega) hbig (fun d' k1 k2 k3=>Za (N:=N) hb (by omega) hbig hi N d' (by omega) (Nat.le_refl _) k1 k2 k3 (fun p q q1 q2 q3=>by omega)) ((hi-1) / 2+1) N d (by omega) (by omega) rfl h (fun r ch k1 k2 k3=>by omega)
theorem Z7 (hb:b≤l0) (hbig:l0≤2000): ∀(k i j:Nat) (d:List Int),a≤i→j≤b→b<k+i→1≤k→d.length=l0→i≤b→
    Ok (Aw N l0 k (i:Int) ((j:Int)-1) d) fun d'=>Sw a b d d'
  |0,i,j,d,_,_,_,h,_,_=>by omega
  | k+1,i,j,d,h1,h2,h3,_,hl,_=>by
    rw[Aw]
    by_cases hlt:i+1<j
    · obtain⟨t,rfl⟩: ∃t,j=t+1:=⟨j-1,by omega⟩
      have e1:((t+1:Nat):Int)-1=(t:Int):=by omega
      have e2:(i:Int)+1=((i+1:Nat):Int):=by omega
      rw[if_pos (by simp only[decide_eq_true_eq];omega),e1]
      simp(disch:=omega) only[e2,Ak,AZ,KJ,Option.bind_some,Int.toNat_natCast]
      have:=Z7 hb hbig k (i+1) t (swD d i t) (by omega) (by omega) (by omega) (by omega) (by rw[EU];exact hl) (by omega)
      exact this.mono fun d' h'=>(Sw.one (by omega) (by omega)).trans h'
    · rw[if_neg (by simp only[decide_eq_true_eq];omega)]
      exact Ok.ret (.refl d)
theorem ALM (h:Row c d) (hab:a<b) (hb:b≤d.length) (hN:b+2≤N):Ok (BU N d.length d (a:Int) (b:Int) c) fun d'=>Sw a b d d':=by
  have hbig:=h.big
  unfold BU
  rw[Ak (by omega)]
  exact Z7 hb hbig N a b d (Nat.le_refl _) (Nat.le_refl _) (by omega) (by omega) rfl (by omega)
end
end Go.VM
namespace Go.VM
section
variable{N:Nat}{c:ApiValue}{d d':List Int}{a b i j l0:Nat}
theorem ABq{a0:List Int}{a1 a2 a3 x1 x2:Int}{k4:Int→Option (Int×Bool×List Int)}: ∀(k:Nat) (s:Int),A8 N l0 a0 a1 a2 a3 c x1 x2 k4 k s=AX N l0 a1 c (wr .i64 (a2-1)) ((a0.set a1.toNat x1).set a3.toNat x2) k4 k s
  |0,s=>rfl
  | k+1,s=>by
    rw[A8,AX]
    simp only[AR,ABq k]
theorem ACG{a0:List Int}{a1 a3 x1 x2 j3:Int}{k17:Int→Option (Int×Bool×List Int)}: ∀(k:Nat) (s:Int),A7 N l0 a0 a1 a3 c x1 x2 j3 k17 k s=AY N l0 a1 c ((a0.set a1.toNat x1).set a3.toNat x2) j3 k17 k s
  |0,s=>rfl
  | k+1,s=>by
    rw[A7,AY]
    simp only[AR,ACG k]
theorem Uy (hr:Row c d) (hl:d.length=l0) (ha:a<l0) (hj:j≤l0): ∀(k i:Nat),j<k+i→1≤k→i≤l0+1→
    ∃i':Nat,(∀k4:Int→Option (Int×Bool×List Int),AX N l0 (a:Int) c ((j:Int)-1) d k4 k (i:Int)=k4 (i':Int))∧i≤i'∧(i'≤j∨i'=i)∧(∀x,i≤x→x<i'→ltI c (at0 d x) (at0 d a)=true)∧(i'<j→ltI c (at0 d i') (at0 d a)=false)
  |0,i,_,h,_=>by omega
  | k+1,i,h1,_,h3=>by
    have hbig:=hr.big
    have hc:=cmp_eq (N:=N) hr
    have e2:(i:Int)+1=((i+1:Nat):Int):=by omega
    by_cases hij:i<j
    · have step: ∀k4:Int→Option (Int×Bool×List Int),AX N l0 (a:Int) c ((j:Int)-1) d k4 (k+1) (i:Int)=if ltI c (at0 d i) (at0 d a)=true then AX N l0 (a:Int) c ((j:Int)-1) d k4 k ((i+1:Nat):Int)else k4 (i:Int):=fun k4=>by
        rw[AX]
        simp only[AR]
        rw[if_pos (by simp only[decide_eq_true_eq];omega)]
        simp(disch:=omega) only[e2,Ak,AZ,KJ,Option.bind_some,hc,Hr,Int.toNat_natCast]
      cases hlt:ltI c (at0 d i) (at0 d a)
      · exact⟨i,fun k4=>by rw[step,hlt];rfl,Nat.le_refl _,.inr rfl,fun x x1 x2=>by omega,fun _=>hlt⟩
      · obtain⟨i',f1,f2,f3,f4,f5⟩:=Uy hr hl ha hj k (i+1) (by omega) (by omega) (by omega)
        refine⟨i',fun k4=>by rw[step,hlt,if_pos rfl,f1],by omega,.inl (by omega),fun x x1 x2=>?_,f5⟩
        by_cases e:x=i
        · rw[e];exact hlt
        · exact f4 x (by omega) x2
    · refine⟨i,fun k4=>?_,Nat.le_refl _,.inr rfl,fun x x1 x2=>by omega,fun h=>by omega⟩
      rw[AX]
      simp only[AR]
      rw[if_neg (by simp only[decide_eq_true_eq];omega),if_neg (by decide)]
theorem O3 (hr:Row c d) (hl:d.length=l0) (ha:a<l0): ∀(k j:Nat),j<k+i→1≤k→j≤l0→
    ∃j':Nat,(∀k4:Int→Option (Int×Bool×List Int),AY N l0 (a:Int) c d (i:Int) k4 k ((j:Int)-1)=k4 ((j':Int)-1))∧j'≤j∧(i≤j'∨j'=j)∧(∀x,j'≤x→x<j→ltI c (at0 d x) (at0 d a)=false)∧(i<j'→ltI c (at0 d (j'-1)) (at0 d a)=true)
  |0,j,_,h,_=>by omega
  | k+1,j,h1,_,h3=>by
    have hbig:=hr.big
    have hc:=cmp_eq (N:=N) hr
    by_cases hij:i<j
    · obtain⟨t,rfl⟩: ∃t,j=t+1:=⟨j-1,by omega⟩
      have e1:((t+1:Nat):Int)-1=(t:Int):=by omega
      have step: ∀k4:Int→Option (Int×Bool×List Int),AY N l0 (a:Int) c d (i:Int) k4 (k+1) (t:Int)=if(!ltI c (at0 d t) (at0 d a))=true then AY N l0 (a:Int) c d (i:Int) k4 k ((t:Int)-1)else k4 (t:Int):=fun k4=>by
        rw[AY]
        simp only[AR]
        rw[if_pos (by simp only[decide_eq_true_eq];omega)]
        simp(disch:=omega) only[Ak,AZ,KJ,Option.bind_some,hc,Hr,Int.toNat_natCast]
      cases hlt:ltI c (at0 d t) (at0 d a)
      · obtain⟨j',f1,f2,f3,f4,f5⟩:=O3 hr hl ha k t (by omega) (by omega) (by omega)
        refine⟨j',fun k4=>by rw[e1,step,hlt,if_pos (by decide),f1],by omega,.inl (by omega),fun x x1 x2=>?_,f5⟩
        by_cases e:x=t
        · rw[e];exact hlt
        · exact f4 x x1 (by omega)
      · exact⟨t+1,fun k4=>by rw[e1,step,hlt];rfl,Nat.le_refl _,.inr rfl,fun x x1 x2=>by omega,fun _=>hlt⟩
    · refine⟨j,fun k4=>?_,Nat.le_refl _,.inr rfl,fun x x1 x2=>by omega,fun h=>by omega⟩
      rw[AY]
      simp only[AR]
      rw[if_neg (by simp only[decide_eq_true_eq];omega),if_neg (by decide)]
structure PtI (c:ApiValue) (a b i j:Nat) (d:List Int):Prop where
  lo: ∀x,a<x→x<i→ltI c (at0 d x) (at0 d a)=true
  hi: ∀x,j≤x→x<b→ltI c (at0 d a) (at0 d x)=true
theorem TS (hb:b≤l0) (hN:l0+2≤N): ∀(k i j:Nat) (d:List Int),a<i→a<j→j≤b→i≤j+1→j<k→d.length=l0→Row c d→PtI c a b i j d→
    ∃(m:Nat) (d':List Int),(∀k34:Int×List Int→Option (Int×Bool×List Int),Af N l0 (a:Int) c k34 k (i:Int) ((j:Int)-1) d=k34 ((m:Int),d'))∧a≤m∧m<b∧Sw (a+1) b d d'∧PtI c a b (m+1) (m+1) d'
  |0,i,j,d,_,_,_,_,h,_,_,_=>by omega
  | k+1,i,j,d,h1,h2,h3,h4,h5,hl,hr,hp=>by
    have hbig:=hr.big
    obtain⟨i',f1,f2,f3,f4,f5⟩:=Uy (N:=N) (a:=a) (j:=j) hr hl (by omega) (by omega) N i (by omega) (by omega) (by omega)
    obtain⟨j',g1,g2,g3,g4,g5⟩:=O3 (N:=N) (a:=a) (i:=i') hr hl (by omega) N j (by omega) (by omega) (by omega)
    have unf: ∀k34:Int×List Int→Option (Int×Bool×List Int),Af N l0 (a:Int) c k34 (k+1) (i:Int) ((j:Int)-1) d=(fun j51:Int=>if decide ((i':Int)>j51)=true then k34 (j51,d)else grd (0≤j51∧j51<(l0:Int)) (Option.bind (idx d j51) fun x64=>grd (0≤(i':Int)∧(i':Int)<(l0:Int)) (Option.bind (idx d (i':Int)) fun x65=>grd ((i':Int).toNat+1≤d.length) (grd (j51.toNat+1≤d.length) (Af N l0 (a:Int) c k34 k (wr .i64 ((i':Int)+1)) (wr .i64 (j51-1)) ((d.set (i':Int).toNat x64).set j51.toNat x65)))))) ((j':Int)-1):=fun k34=>by
      rw[Af]
      simp only[AR]
      rw[f1,g1]
    have hp2:PtI c a b i' j' d:=⟨fun x x1 x2=>by
        by_cases e:x<i
        · exact hp.lo x x1 e
        · exact f4 x (by omega) x2,fun x x1 x2=>by
        by_cases e:j≤x
        · exact hp.hi x e x2
        · exact hr.gt (i:=x) (j:=a) (by omega) (by omega) (by omega) (g4 x x1 (by omega))⟩
    by_cases hij:i'<j'
    · obtain⟨t,rfl⟩: ∃t,j'=t+1:=⟨j'-1,by omega⟩
      have e1:((t+1:Nat):Int)-1=(t:Int):=by omega
      have e2:(i':Int)+1=((i'+1:Nat):Int):=by omega
      have hg:=g5 hij
      have hf:=f5 (by omega)
      rw[Nat.add_sub_cancel]at hg
      have hne:i'≠t:=fun e=>by rw[e,hg]at hf;cases hf
      have hsw:=hr.sw (i:=i') (j:=t) (by omega) (by omega)
      obtain⟨m,d',q1,q2,q3,q4,q5⟩:=TS hb hN k (i'+1) t (swD d i' t) (by omega) (by omega) (by omega) (by omega) (by omega) (by rw[EU];exact hl) hsw ⟨fun x x1 x2=>by
          rw[Hd (by omega) (by omega),Hd (by omega) (by omega),if_neg (by omega: ¬a=t),if_neg (by omega: ¬a=i')]
          by_cases e1:x=t
          · omega
          · rw[if_neg e1]
            by_cases e2:x=i'
            · rw[if_pos e2];exact hg
            · rw[if_neg e2];exact hp2.lo x x1 (by omega),fun x x1 x2=>by
          rw[Hd (by omega) (by omega),Hd (by omega) (by omega),if_neg (by omega: ¬a=t),if_neg (by omega: ¬a=i')]
          by_cases e1:x=t
          · rw[if_pos e1];exact hr.gt (i:=i') (j:=a) (by omega) (by omega) (by omega) hf
          · rw[if_neg e1]
            by_cases e2:x=i'
            · omega
            · rw[if_neg e2];exact hp2.hi x (by omega) x2⟩
      refine⟨m,d',fun k34=>?_,q2,q3,(Sw.one (by omega) (by omega)).trans q4,q5⟩
      rw[unf,e1]
      dsimp only
      rw[if_neg (by simp only[decide_eq_true_eq];omega)]
      simp(disch:=omega) only[e2,Ak,AZ,KJ,Option.bind_some,Int.toNat_natCast]
      exact q1 k34
    · obtain⟨t,rfl⟩: ∃t,j'=t+1:=⟨j'-1,by omega⟩
      have e1:((t+1:Nat):Int)-1=(t:Int):=by omega
      refine⟨t,d,fun k34=>?_,by omega,by omega,.refl d,fun x x1 x2=>hp2.lo x x1 (by omega),hp2.hi⟩
      rw[unf,e1]
      dsimp only
      rw[if_pos (by simp only[decide_eq_true_eq];omega)]
theorem Z4{m:Nat} (hr:Row c d) (ham:a≤m) (hmb:m<b) (hb:b≤d.length) (hp:PtI c a b (m+1) (m+1) d):
    (∀x,a≤x→x<m→ltI c (at0 (swD d m a) x) (at0 (swD d m a) m)=true)∧(∀x,m<x→x<b→ltI c (at0 (swD d m a) m) (at0 (swD d m a) x)=true):=by
  have em:at0 (swD d m a) m=at0 d a:=by
    rw[Hd (by omega) (by omega)]
    by_cases e:m=a
    · rw[if_pos e,e]
    · rw[if_neg e,if_pos rfl]
  refine⟨fun x x1 x2=>?_,fun x x1 x2=>?_⟩
  · rw[em,Hd (by omega) (by omega)]
    by_cases e:x=a
    · rw[if_pos e];exact hp.lo m (by omega) (by omega)
    · rw[if_neg e,if_neg (by omega)];exact hp.lo x (by omega) (by omega)
  · rw[em,Hd (by omega) (by omega),if_neg (by omega),if_neg (by omega)]
    exact hp.hi x (by omega) x2
theorem AI8{p:Nat} (hr:Row c d) (hap:a≤p) (hpb:p<b) (hb:b≤d.length) (hN:d.length+2≤N):Ok (Ba N d.length d (a:Int) (b:Int) (p:Int) c) fun r=>
    ∃m:Nat,r.1=(m:Int)∧a≤m∧m<b∧Sw a b d r.2.2∧(∀x,a≤x→x<m→ltI c (at0 r.2.2 x) (at0 r.2.2 m)=true)∧(∀x,m<x→x<b→ltI c (at0 r.2.2 m) (at0 r.2.2 x)=true):=by
  have hbig:=hr.big
  have hr0:=hr.sw (i:=a) (j:=p) (by omega) (by omega)
  have hl0:(swD d a p).length=d.length:=EU
  unfold Ba
  simp only[AR]
  simp(disch:=omega) only[AZ,KJ,Option.bind_some,Int.toNat_natCast,ABq,ACG]
  have esw:(d.set a (at0 d p)).set p (at0 d a)=swD d a p:=rfl
  rw[esw,Ak (n:=(b:Int)-1) (by omega),show(a:Int)+1=((a+1:Nat):Int) by omega,Ak (by omega)]
  generalize hD:swD d a p=D at *
  obtain⟨i,f1,f2,f3,f4,f5⟩:=Uy (N:=N) (a:=a) (j:=b) (l0:=d.length) hr0 hl0 (by omega) hb N (a+1) (by omega) (by omega) (by omega)
  rw[f1]
  obtain⟨j,g1,g2,g3,g4,g5⟩:=O3 (N:=N) (a:=a) (i:=i) (l0:=d.length) hr0 hl0 (by omega) N b (by omega) (by omega) (by omega)
  rw[g1]
  have hp2:PtI c a b i j D:=⟨fun x x1 x2=>f4 x (by omega) x2,fun x x1 x2=>hr0.gt (i:=x) (j:=a) (by omega) (by omega) (by omega) (g4 x x1 x2)⟩
  obtain⟨t,rfl⟩: ∃t,j=t+1:=⟨j-1,by omega⟩
  have e1:((t+1:Nat):Int)-1=(t:Int):=by omega
  have hsw:Sw a b d D:=by rw[←hD];exact Sw.one (by omega) (by omega)
  rw[e1]
  by_cases hij:i<t+1
  · have hg:=g5 hij
    have hf:=f5 (by omega)
    rw[Nat.add_sub_cancel]at hg
    have hne:i≠t:=fun e=>by rw[e,hg]at hf;cases hf
    have e2:(i:Int)+1=((i+1:Nat):Int):=by omega
    rw[if_neg (by simp only[decide_eq_true_eq];omega)]
    simp(disch:=omega) only[e2,Ak,AZ,KJ,Option.bind_some,Int.toNat_natCast]
    have esw2:(D.set i (at0 D t)).set t (at0 D i)=swD D i t:=rfl
    rw[esw2]
    have hsw2:=hr0.sw (i:=i) (j:=t) (by omega) (by omega)
    obtain⟨m,d',q1,q2,q3,q4,q5⟩:=TS (N:=N) (a:=a) hb hN N (i+1) t (swD D i t) (by omega) (by omega) (by omega) (by omega) (by omega) (by rw[EU];exact hl0) hsw2 ⟨fun x x1 x2=>by
        rw[Hd (by omega) (by omega),Hd (by omega) (by omega),if_neg (by omega: ¬a=t),if_neg (by omega: ¬a=i)]
        by_cases e1:x=t
        · omega
        · rw[if_neg e1]
          by_cases e2:x=i
          · rw[if_pos e2];exact hg
          · rw[if_neg e2];exact hp2.lo x x1 (by omega),fun x x1 x2=>by
        rw[Hd (by omega) (by omega),Hd (by omega) (by omega),if_neg (by omega: ¬a=t),if_neg (by omega: ¬a=i)]
        by_cases e1:x=t
        · rw[if_pos e1];exact hr0.gt (i:=i) (j:=a) (by omega) (by omega) (by omega) hf
        · rw[if_neg e1]
          by_cases e2:x=i
          · omega
          · rw[if_neg e2];exact hp2.hi x (by omega) x2⟩
    rw[q1]
    have hl2:d'.length=d.length:=by rw[q4.len,EU];exact hl0
    have hr2:=q4.row (by rw[EU];omega) hsw2
    simp(disch:=omega) only[AZ,KJ,Option.bind_some,Int.toNat_natCast]
    have esw3:(d'.set m (at0 d' a)).set a (at0 d' m)=swD d' m a:=rfl
    rw[esw3]
    have hfin:=Z4 hr2 q2 q3 (by omega) q5
    exact Ok.ret ⟨m,rfl,q2,q3,hsw.trans ((Sw.one (by omega) (by omega)).trans ((q4.mono (by omega) (Nat.le_refl _)).trans (Sw.one (by omega) (by omega)))),hfin.1,hfin.2⟩
  · rw[if_pos (by simp only[decide_eq_true_eq];omega)]
    simp(disch:=omega) only[AZ,KJ,Option.bind_some,Int.toNat_natCast]
    have esw3:(D.set t (at0 D a)).set a (at0 D t)=swD D t a:=rfl
    rw[esw3]
    have hfin:=Z4 (m:=t) hr0 (by omega) (by omega) (by omega) ⟨fun x x1 x2=>hp2.lo x x1 (by omega),hp2.hi⟩
    exact Ok.ret ⟨t,rfl,by omega,by omega,hsw.trans (Sw.one (by omega) (by omega)),hfin.1,hfin.2⟩
end
end Go.VM
