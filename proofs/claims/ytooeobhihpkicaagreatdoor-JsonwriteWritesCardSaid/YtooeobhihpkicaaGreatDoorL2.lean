import Derived.Test.YtooeobhihpkicaaGreatDoorL1
set_option linter.unusedVariables false
set_option linter.unusedSimpArgs false
namespace Go.VM
section
variable{N:Nat}
theorem CY{α β:Type}{K:α→Option β}{body:(α→Option β)→Option β}{a:α} (h: ∀k:α→Option β,body k=k a):AY K body=K a:=h K
theorem TB (l:List UInt8) (k2:Int→Option Int) (hb:l.length≤2^50): ∀(t:List UInt8) (i k:Nat),l.drop i=t→i≤l.length→t.length<k→Fp N l k2 k (i:Int)=k2 ((i+FO t:Nat):Int)
  | [],i,k+1,ht,hi,_=>by
    have hl:=E8 ht hi
    simp only[List.length_nil]at hl
    have c: ¬(i:Int)<(l.length:Int):=by omega
    rw[Fp,Ab,if_neg (by simpa using c)]
    dsimp only
    rw[if_neg (by decide)];rfl
  | c::t,i,k+1,ht,hi,hk=>by
    have hl:=E8 ht hi
    simp only[List.length_cons]at hl hk
    have c0:(i:Int)<(l.length:Int):=by omega
    rw[Fp,Ab,if_pos (decide_eq_true c0),head_drop ht,Option.bind_some,ABW,Option.bind_some]
    unfold FO
    rw[List.takeWhile_cons]
    cases Ep c
    · simp
    · dsimp only
      rw[if_pos rfl,if_pos rfl,A8 (by omega),show(i:Int)+1=((i+1:Nat):Int) by simp,TB l k2 hb t (i+1) k (by rw[←List.drop_drop,ht];rfl) (by omega) (by omega)]
      rw[List.length_cons];unfold FO;congr 2;omega
theorem AH5 (t:List UInt8) (hb:t.length≤2^50) (hN:t.length<N):IW N t=some ((FO t:Nat):Int):=by
  unfold IW
  rw[Ab]
  have:=TB (N:=N) t (fun j=>some j) hb t 0 N (by simp) (by omega) hN
  simpa using this
theorem Q5 (t:List UInt8) (i:Nat):IG N t (i:Int)=some (t.drop i):=by
  unfold IG
  by_cases h:(i:Int)≥(t.length:Int)
  · rw[if_pos (decide_eq_true h),List.drop_of_length_le (by omega)]
  · rw[if_neg (by simpa using h),Fh t i t.length (by omega) (by omega),Option.bind_some,List.take_of_length_le (by simp)]
theorem Mg{β:Type} (t:List UInt8) (i:Nat) (k:Bool→Option β) (f:UInt8→Option β) (set:List UInt8) (hf: ∀c r,t.drop i=c::r→f c=k (set.contains c)):
    (if decide ((i:Int)<(t.length:Int))=true then Option.bind (idx t (i:Int)) f else k false)=k (Dq set (t.drop i)):=by
  by_cases hi:i≤t.length
  · obtain⟨u,hu⟩: ∃u,t.drop i=u:=⟨_,rfl⟩
    have hl:=E8 hu hi
    rw[hu]
    cases u with
    | nil=>
      simp only[List.length_nil]at hl
      have c: ¬(i:Int)<(t.length:Int):=by omega
      rw[if_neg (by simpa using c)];rfl
    | cons c r=>
      simp only[List.length_cons]at hl
      have c0:(i:Int)<(t.length:Int):=by omega
      rw[if_pos (decide_eq_true c0),head_drop hu,Option.bind_some,hf c r hu];rfl
  · have c: ¬(i:Int)<(t.length:Int):=by omega
    rw[if_neg (by simpa using c),List.drop_of_length_le (by omega)];rfl
theorem NI (c:UInt8) (k:UInt8):([k]:List UInt8).contains c=decide (c.toNat=k.toNat):=by
  by_cases h:c=k
  · subst h;simp
  · have: ¬c.toNat=k.toNat:=fun e=>h (UInt8.toNat_inj.1 e)
    simp[h,this]
theorem AHh (c:UInt8):(Ae c==45)=([45]:List UInt8).contains c:=by rw[NI];exact AAV (k:=45)
theorem ALx (c:UInt8):(Ae c==46)=([46]:List UInt8).contains c:=by rw[NI];exact AAV (k:=46)
theorem ALi (c:UInt8):(Ae c==48)=([48]:List UInt8).contains c:=by rw[NI];exact AAV (k:=48)
theorem W9{t:List UInt8}:Dk t=0↔(t=[]∨ ∃c r,t=c::r∧Ep c=false):=by
  cases t with
  |nil=>exact⟨fun _=>.inl rfl,fun _=>rfl⟩
  | cons c r=>
    constructor
    · intro h
      refine .inr ⟨c,r,rfl,?_⟩
      unfold Dk at h
      split at h
      · cases h
      · unfold FO at h
        rw[List.takeWhile_cons]at h
        cases hd:Ep c
        · rfl
        · rw[hd]at h;simp at h
    · rintro(h|⟨c',r',h,hd⟩)
      · cases h
      · cases h
        have h48:Dq [48] (c::r)=false:=by
          show([48]:List UInt8).contains c=false
          rw[NI]
          have: ¬c.toNat=48:=fun e=>by simp[Ep,e]at hd
          simpa using this
        unfold Dk;rw[h48,if_neg (by simp)]
        unfold FO;rw[List.takeWhile_cons,hd];rfl
theorem PW (t:List UInt8) (hb:t.length≤2^50) (hN:t.length<N):Gn N t=some ((GI t:Nat):Int):=by
  have h1:=RL t
  have h2:=P9 (t.drop (A9 t))
  have h3:=Ri (t.drop (A9 t+Dk (t.drop (A9 t))))
  have h4:=U4 (t.drop (A9 t+Dk (t.drop (A9 t))+FQ (t.drop (A9 t+Dk (t.drop (A9 t))))))
  simp only[List.length_drop]at h2 h3 h4
  have run: ∀n:Nat,IW N (t.drop n)=some ((FO (t.drop n):Nat):Int):=fun n=>AH5 _ (by rw[List.length_drop];omega) (by rw[List.length_drop];omega)
  have wn: ∀n:Nat,n≤2^51→wr .i64 (n:Int)=(n:Int):=fun n h=>Hd (by omega)
  have w1: ∀n:Nat,n≤2^51→wr .i64 ((n:Int)+1)=((n+1:Nat):Int):=fun n h=>by rw[A8 (by omega)];simp
  have hsub:sub t (A9 t:Int) (t.length:Int)=some (t.drop (A9 t)):=by
    rw[Fh t (A9 t) t.length h1 (Nat.le_refl _),List.take_of_length_le (by simp)]
  have hs2:A9 t≤1:=by unfold A9;split<;>omega
  unfold Gn
  refine(CY (a:=((A9 t:Nat):Int)) fun k2=>(CY (a:=Dq [45] t) fun k6=>?_).trans ?_).trans ?_
  · have key:=Mg t 0 k6 (fun x9=>k6 (Ae x9==45)) [45] (fun c r _=>by rw[AHh])
    simpa using key
  · unfold A9
    cases Dq [45] t<;>rfl
  try dsimp only
  refine(CY (a:=decide (Dk (t.drop (A9 t))=0)) fun k11=>?_).trans ?_
  · obtain⟨u,hu⟩: ∃u,t.drop (A9 t)=u:=⟨_,rfl⟩
    have hl:=E8 hu h1
    rw[hu]
    cases u with
    | nil=>
      simp only[List.length_nil]at hl
      rw[if_pos (by simp;omega)];rfl
    | cons c r=>
      simp only[List.length_cons]at hl
      rw[if_neg (by simp;omega),head_drop hu,Option.bind_some,ABW,Option.bind_some]
      congr 1
      cases hd:Ep c
      · rw[decide_eq_true (W9.2 (.inr ⟨c,r,rfl,hd⟩))];rfl
      · have: ¬Dk (c::r)=0:=fun h=>by
          rcases W9.1 h with h|⟨c',r',h,hd'⟩
          · cases h
          · cases h;rw[hd]at hd';cases hd'
        rw[decide_eq_false this];rfl
  try dsimp only
  by_cases hz:Dk (t.drop (A9 t))=0
  · rw[if_pos (decide_eq_true hz)]
    unfold GI;rw[if_pos hz];rfl
  rw[if_neg (by simpa using hz)]
  have hnum:GI t=A9 t+Dk (t.drop (A9 t))+FQ (t.drop (A9 t+Dk (t.drop (A9 t))))+KP (t.drop (A9 t+Dk (t.drop (A9 t))+FQ (t.drop (A9 t+Dk (t.drop (A9 t)))))):=by
    unfold GI;rw[if_neg hz]
  refine(CY (a:=((A9 t+Dk (t.drop (A9 t)):Nat):Int)) fun k18=>?_).trans ?_
  · obtain⟨u,hu⟩: ∃u,t.drop (A9 t)=u:=⟨_,rfl⟩
    cases u with
    |nil=>rw[hu]at hz;exact absurd rfl hz
    | cons c r=>
      rw[head_drop hu,Option.bind_some,ALi,hsub,Option.bind_some,run]
      rw[hu]at h2⊢
      rw[show([48]:List UInt8).contains c=Dq [48] (c::r)from rfl]
      unfold Dk at h2⊢
      by_cases h0:Dq [48] (c::r)=true
      · rw[if_pos h0]at h2
        rw[if_pos h0,if_pos h0,w1 _ (by omega)]
      · rw[if_neg h0]at h2
        rw[if_neg h0,if_neg h0,Option.bind_some,A8 (by omega)];congr 1
  try dsimp only
  rw[w1 _ (by omega),Q5]
  generalize hi':A9 t+Dk (t.drop (A9 t))=i at *
  have hil:i≤t.length:=by omega
  refine(CY (a:=((i+FQ (t.drop i):Nat):Int)) fun k26=>?_).trans ?_
  · rw[Option.bind_some,run,Option.bind_some]
    have hr:=LV (t.drop (i+1))
    rw[List.length_drop]at hr
    refine(CY (a:=Dq [46] (t.drop i)&&decide (0<FO (t.drop (i+1)))) fun k34=>?_).trans ?_
    · refine(Mg t i (fun b=>k34 (b&&decide (0<FO (t.drop (i+1))))) _ [46] (fun c r _=>?_)).trans rfl
      rw[ALx]
      cases ([46]:List UInt8).contains c
      · rfl
      · rw[if_pos rfl];congr 1;rw[Bool.true_and];congr 1;simp only[eq_iff_iff];omega
    try dsimp only
    unfold FQ
    rw[List.drop_drop]
    by_cases hc:Dq [46] (t.drop i)=true∧0<FO (t.drop (i+1))
    · rw[if_pos (by simpa using hc),if_pos hc,A8 (n:=1+_) (by omega),A8 (by omega)];congr 1
    · rw[if_neg (by simpa using hc),if_neg hc];rfl
  try dsimp only
  generalize hj:i+FQ (t.drop i)=j at *
  have hjl:j≤t.length:=by omega
  rw[w1 _ (by omega)]
  refine(CY (a:=((j+KP (t.drop j):Nat):Int)) fun k39=>?_).trans ?_
  · refine(CY (a:=Dq [101,69] (t.drop j)) fun k43=>Mg t j k43 _ [101,69] (fun c r _=>by rw[UN _ _ (by decide),Option.bind_some])).trans ?_
    try dsimp only
    by_cases he:Dq [101,69] (t.drop j)=true
    · rw [if_pos he]
      have hpos:=Hg he
      rw[List.length_drop]at hpos
      have hes:JW (t.drop j)≤t.length-j-1:=by
        unfold JW;split
        · rename_i h
          have:=Hg h
          simp only[List.length_drop]at this;omega
        · omega
      refine(CY (a:=((j+(1+JW (t.drop j)):Nat):Int)) fun k50=>(CY (a:=Dq [43,45] (t.drop (j+1))) fun k54=>Mg t (j+1) k54 _ [43,45] (fun c r _=>by rw[UN _ _ (by decide),Option.bind_some])).trans ?_).trans ?_
      · try dsimp only
        unfold JW
        rw[List.drop_drop]
        by_cases h:Dq [43,45] (t.drop (j+1))=true
        · rw[if_pos h,if_pos h,w1 _ (by omega)]
        · rw[if_neg h,if_neg h]
      try dsimp only
      rw[Q5,Option.bind_some,run,Option.bind_some]
      have hr:=LV (t.drop (j+(1+JW (t.drop j))))
      rw[List.length_drop]at hr
      have hex:KP (t.drop j)=if 0<FO (t.drop (j+(1+JW (t.drop j))))then 1+JW (t.drop j)+FO (t.drop (j+(1+JW (t.drop j))))else 0:=by
        unfold KP
        rw[List.drop_drop]
        by_cases h:0<FO (t.drop (j+(1+JW (t.drop j))))
        · rw[if_pos ⟨he,h⟩,if_pos h]
        · rw[if_neg (fun k=>h k.2),if_neg h]
      rw[hex]
      by_cases h:0<FO (t.drop (j+(1+JW (t.drop j))))
      · rw[if_pos (by simp;omega),if_pos h,A8 (by omega)];congr 1;omega
      · rw[if_neg (by simp;omega),if_neg h];rfl
    · rw[if_neg he,show KP (t.drop j)=0 by unfold KP;rw[if_neg (fun k=>he k.1)]];rfl
  try dsimp only
  rw[hnum]
end
end Go.VM
namespace Go.VM
section
variable{N:Nat}
section
variable{l t:List UInt8}{i p:Nat}
end
end
end Go.VM
namespace Go.VM
section
variable{N:Nat}
def DF:Nat→List UInt8→Option Nat
  |0,_=>none
  |_+1,[]=>some 0
  | k+1,c::t=>
    match Ps (c::t)with
    |some (_,n)=>(DF k ((c::t).drop n)).map (· +1)
    |none=>none
def OH (n:Nat):Option Nat→Int
  |some m=>((n+m:Nat):Int)
  |none=> -1
section
variable{l:List UInt8}
theorem PK (hb:l.length≤2^50) (hN:5≤N): ∀(k:Nat) (t:List UInt8) (i n:Nat),l.drop i=t→i≤l.length→t.length<k→n≤i→DV N l (fun j=>some j) k (n:Int) (i:Int)=some (OH n (DF k t))
  |0,t,i,n,ht,hi,hk,hn=>by omega
  | k+1,[],i,n,ht,hi,hk,hn=>by
    have hl:=E8 ht hi
    simp only[List.length_nil]at hl
    have c: ¬(i:Int)<(l.length:Int):=by omega
    rw[DV,if_neg (by simpa using c)];rfl
  | k+1,c::t,i,n,ht,hi,hk,hn=>by
    have hl:=E8 ht hi
    simp only[List.length_cons]at hl hk
    have c0:(i:Int)<(l.length:Int):=by omega
    rw[DV,if_pos (decide_eq_true c0),AFt hN (by omega) (by omega),Option.bind_some,ht,DF]
    cases hd:Ps (c::t)with
    |none=>rfl
    | some p=>
      obtain⟨r,m⟩:=p
      obtain⟨e1,e2,_⟩:=Ww hd
      simp only[List.length_cons]at e2
      rw[Qb,if_neg (by simp),A8 (by omega),show(n:Int)+1=((n+1:Nat):Int) by simp]
      rw[PK hb hN k _ (i+m) (n+1) (by rw[←List.drop_drop,ht]) (by omega) (by rw[List.length_drop,List.length_cons];omega) (by omega)]
      simp only[]
      cases DF k ((c::t).drop m)with
      |none=>rfl
      |some q=>simp only[OH,Option.map_some];congr 1;omega
theorem PT (hb:l.length≤2^50) (hN:5≤N): ∀(k:Nat) (t:List UInt8) (i n:Nat),l.drop i=t→i≤l.length→t.length<k→n≤i→Eb N l (fun j=>some j) k (n:Int) (i:Int)=some (OH n (DF k t))
  |0,t,i,n,ht,hi,hk,hn=>by omega
  | k+1,[],i,n,ht,hi,hk,hn=>by
    have hl:=E8 ht hi
    simp only[List.length_nil]at hl
    have c: ¬(i:Int)<(l.length:Int):=by omega
    rw[Eb,if_neg (by simpa using c)];rfl
  | k+1,c::t,i,n,ht,hi,hk,hn=>by
    have hl:=E8 ht hi
    simp only[List.length_cons]at hl hk
    have c0:(i:Int)<(l.length:Int):=by omega
    rw[Eb,if_pos (decide_eq_true c0),AEu hN (by omega) (by omega),Option.bind_some,ht,DF]
    cases hd:Ps (c::t)with
    |none=>rfl
    | some p=>
      obtain⟨r,m⟩:=p
      obtain⟨e1,e2,_⟩:=Ww hd
      simp only[List.length_cons]at e2
      rw[Qb,if_neg (by simp),A8 (by omega),show(n:Int)+1=((n+1:Nat):Int) by simp]
      rw[PT hb hN k _ (i+m) (n+1) (by rw[←List.drop_drop,ht]) (by omega) (by rw[List.length_drop,List.length_cons];omega) (by omega)]
      simp only[]
      cases DF k ((c::t).drop m)with
      |none=>rfl
      |some q=>simp only[OH,Option.map_some];congr 1;omega
theorem OT (hb:l.length≤2^50) (hN:l.length+5≤N):E9 N l=some (DF N l).isSome:=by
  unfold E9 IY
  rw[Ab]
  have:=PK (N:=N) hb (by omega) N l 0 0 (by simp) (by omega) (by omega) (by omega)
  rw[show(0:Int)=((0:Nat):Int)from rfl,this,Option.bind_some]
  cases DF N l with
  |none=>rfl
  |some q=>simp[OH]
theorem OO (hb:l.length≤2^50) (hN:l.length+5≤N):Hf N l=some (DF N l).isSome:=by
  unfold Hf KI
  rw[Ab]
  have:=PT (N:=N) hb (by omega) N l 0 0 (by simp) (by omega) (by omega) (by omega)
  rw[show(0:Int)=((0:Nat):Int)from rfl,this,Option.bind_some]
  cases DF N l with
  |none=>rfl
  |some q=>simp[OH]
end
def XP:List UInt8:=[48,49,50,51,52,53,54,55,56,57,97,98,99,100,101,102]
def qN (n:Nat):List UInt8:=
  if n=34 then [92,34]else if n=92 then [92,92]else if n=8 then [92,98]else if n=12 then [92,102]else if n=10 then [92,110]else if n=13 then [92,114]else if n=9 then [92,116]
  else if n<32 then [92,117,48,48,XP.getD (n / 16) 0,XP.getD (n % 16) 0]else [UInt8.ofNat n]
def qB (c:UInt8):List UInt8:=qN c.toNat
theorem AAu (c:UInt8):1≤(qB c).length∧(qB c).length≤6:=by
  unfold qB qN
  repeat' split
  all_goals simp
def gP (n:Nat):Option (List Int):=
  if decide (Go.Lib.indexByte ([34,92,8,12,10,13,9]:List UInt8) (UInt8.ofNat n)≥0)=true then(idx ([34,92,98,102,110,114,116]:List UInt8) (Go.Lib.indexByte ([34,92,8,12,10,13,9]:List UInt8) (UInt8.ofNat n))).map fun x=>[92,Ae x]
  else if decide ((n:Int)<32)=true then(idx XP (JS .u8 (n:Int) 4)).bind fun x=>(idx XP (DT .u8 (n:Int) 15)).map fun y=>[92,117,48,48,Ae x,Ae y]
  else some [(n:Int)]
theorem ALI (c:UInt8):gP c.toNat=some ((qB c).map Ae):=Jn (f:=gP) (g:=fun n=>some ((qN n).map Ae)) (by kernel_rfl) c
theorem WU (k4:List Int→Option (List UInt8×Int)) (c:UInt8) (xs:List UInt8) (s:List Int) (hs:s.length≤2^40):Cs N k4 (c::xs) s=Cs N k4 xs (s++(qB c).map Ae):=by
  have key:=ALI c
  unfold gP at key
  simp only[UInt8.ofNat_toNat]at key
  rw[Cs]
  simp only[Ab]
  rw[Su,Option.bind_some]
  by_cases h1:Go.Lib.indexByte ([34,92,8,12,10,13,9]:List UInt8) c≥0
  · rw[if_pos (decide_eq_true h1)]at key⊢
    rw[Option.map_eq_some_iff]at key
    obtain⟨x,hx,he⟩:=key
    rw[hx,Option.bind_some,AU (by unfold Cc;omega),←he]
  · rw[if_neg (by simpa using h1)]at key⊢
    by_cases h2:Ae c<32
    · rw[←H9,if_pos (decide_eq_true h2)]at key
      rw[if_pos (decide_eq_true h2)]
      rw[Option.bind_eq_some_iff]at key
      obtain⟨x,hx,key⟩:=key
      rw[Option.map_eq_some_iff]at key
      obtain⟨y,hy,he⟩:=key
      rw[show([48,49,50,51,52,53,54,55,56,57,97,98,99,100,101,102]:List UInt8)=XP from rfl,hx,Option.bind_some,hy,Option.bind_some,AU (by unfold Cc;omega),←he]
    · rw[←H9,if_neg (by simpa using h2)]at key
      rw[if_neg (by simpa using h2)]
      simp only[Option.some.injEq]at key
      rw[AU (by unfold Cc;omega),←key]
def gR (n:Nat):Option (List Int):=
  if((n:Int)==34||(n:Int)==92)=true then some [92,(n:Int)]else if((n:Int)==8)=true then some [92,98]else if((n:Int)==12)=true then some [92,102]else if((n:Int)==10)=true then some [92,110]
  else if((n:Int)==13)=true then some [92,114]else if((n:Int)==9)=true then some [92,116]
  else if decide ((n:Int)<32)=true then(idx XP (wr .u8 ((n:Int).tdiv 16))).bind fun x=>(idx XP ((n:Int).tmod 16)).map fun y=>[92,117,48,48,Ae x,Ae y]
  else some [(n:Int)]
theorem AKu (c:UInt8):gR c.toNat=some ((qB c).map Ae):=Jn (f:=gR) (g:=fun n=>some ((qN n).map Ae)) (by kernel_rfl) c
theorem ZK (k4:List Int→Option (List UInt8×Int)) (c:UInt8) (xs:List UInt8) (s:List Int) (hs:s.length≤2^40):Cu N k4 (c::xs) s=Cu N k4 xs (s++(qB c).map Ae):=by
  have key:=AKu c
  unfold gR at key
  rw[Cu]
  refine(CY (a:=s++(qB c).map Ae) fun k=>?_).trans rfl
  refine(CY (a:=(Ae c==34)||(Ae c==92)) fun k13=>?_).trans ?_
  · cases Ae c==34<;>rfl
  try dsimp only
  rw[H9]
  have f: ∀ {w:List Int},some w=some ((qB c).map Ae)→ ∀m:Nat,m≤10→grd (Cc (s.length+m) 1) (k (s++w))=k (s++(qB c).map Ae):=by
    intro w hw m hm
    rw[AU (by unfold Cc;omega),Option.some.inj hw]
  by_cases h1:((c.toNat:Int)==34||(c.toNat:Int)==92)=true
  · rw[if_pos h1]at key⊢;exact f key 2 (by omega)
  rw[if_neg h1]at key⊢
  by_cases h2:((c.toNat:Int)==8)=true
  · rw[if_pos h2]at key⊢;exact f key 2 (by omega)
  rw[if_neg h2]at key⊢
  by_cases h3:((c.toNat:Int)==12)=true
  · rw[if_pos h3]at key⊢;exact f key 2 (by omega)
  rw[if_neg h3]at key⊢
  by_cases h4:((c.toNat:Int)==10)=true
  · rw[if_pos h4]at key⊢;exact f key 2 (by omega)
  rw[if_neg h4]at key⊢
  by_cases h5:((c.toNat:Int)==13)=true
  · rw[if_pos h5]at key⊢;exact f key 2 (by omega)
  rw[if_neg h5]at key⊢
  by_cases h6:((c.toNat:Int)==9)=true
  · rw[if_pos h6]at key⊢;exact f key 2 (by omega)
  rw[if_neg h6]at key⊢
  by_cases h7:decide ((c.toNat:Int)<32)=true
  · rw[if_pos h7]at key⊢
    rw[Option.bind_eq_some_iff]at key
    obtain⟨x,hx,key⟩:=key
    rw[Option.map_eq_some_iff]at key
    obtain⟨y,hy,he⟩:=key
    rw[show([48,49,50,51,52,53,54,55,56,57,97,98,99,100,101,102]:List UInt8)=XP from rfl,hx,Option.bind_some,hy,Option.bind_some]
    exact f (congrArg some he) 6 (by omega)
  · rw[if_neg h7]at key⊢;exact f key 1 (by omega)
theorem Pf (k4:List Int→Option (List UInt8×Int)): ∀(l:List UInt8) (s:List Int),s.length+6 * l.length≤2^40→Cs N k4 l s=k4 (s++(l.flatMap qB).map Ae)
  |[],s,h=>by rw[Cs];simp
  | c::l,s,h=>by
    have hq:=AAu c
    simp only[List.length_cons]at h
    rw[WU k4 c l s (by omega),Pf k4 l _ (by rw[List.length_append,List.length_map];omega)]
    rw[List.flatMap_cons,List.map_append,List.append_assoc]
theorem O0 (k4:List Int→Option (List UInt8×Int)): ∀(l:List UInt8) (s:List Int),s.length+6 * l.length≤2^40→Cu N k4 l s=k4 (s++(l.flatMap qB).map Ae)
  |[],s,h=>by rw[Cu];simp
  | c::l,s,h=>by
    have hq:=AAu c
    simp only[List.length_cons]at h
    rw[ZK k4 c l s (by omega),O0 k4 l _ (by rw[List.length_append,List.length_map];omega)]
    rw[List.flatMap_cons,List.map_append,List.append_assoc]
theorem Ha: ∀l:List UInt8,List.map Fz (List.map Ae l)=l
  |[]=>rfl
  |c::l=>by rw[List.map_cons,List.map_cons,Ko,Ha l]
theorem q_len: ∀l:List UInt8,(l.flatMap qB).length≤6 * l.length
  |[]=>by simp
  | c::l=>by
    have:=q_len l
    have:=AAu c
    rw[List.flatMap_cons,List.length_append,List.length_cons];omega
def IK (l:List UInt8):List UInt8:=34::(l.flatMap qB++[34])
def Oq (N:Nat) (l:List UInt8):List UInt8×Int:=if l.length>1048576 then([],5)else if(DF N l).isSome=true then(IK l,0)else([],7)
theorem Tm (l:List UInt8) (h:l.length≤1048576):(grd (Cc (([34]++(l.flatMap qB).map Ae:List Int).length+1) 1) (some ((List.map Fz (([34]++(l.flatMap qB).map Ae)++[34])),(0:Int))))=some (IK l,0):=by
  have:=q_len l
  rw[AU (by unfold Cc;simp only[List.length_append,List.length_map,List.length_cons,List.length_nil];omega)]
  rw[List.map_append,List.map_append,Ha];rfl
theorem ADc (l:List UInt8) (hN:l.length+5≤N∨1048576<l.length):JM N l=some (Oq N l):=by
  unfold JM Oq
  by_cases h:l.length>1048576
  · have:(l.length:Int)>1048576:=by omega
    rw[if_pos (decide_eq_true this),if_pos h]
  · have h': ¬(l.length:Int)>1048576:=by omega
    rw[if_neg (by simpa using h'),if_neg h,OT (by omega) (by omega),Option.bind_some]
    by_cases hv:(DF N l).isSome=true
    · rw[if_pos hv,if_pos hv,Ab,AU (by unfold BD;omega),Pf _ l [34] (by simp;omega)]
      exact Tm l (by omega)
    · rw[if_neg hv,if_neg hv]
theorem TC (l:List UInt8) (hN:l.length+5≤N∨1048576<l.length):G8 N l=some (Oq N l):=by
  unfold G8 Oq
  by_cases h:l.length>1048576
  · have:(l.length:Int)>1048576:=by omega
    rw[if_pos (decide_eq_true this),if_pos h]
  · have h': ¬(l.length:Int)>1048576:=by omega
    rw[if_neg (by simpa using h'),if_neg h,OO (by omega) (by omega),Option.bind_some]
    by_cases hv:(DF N l).isSome=true
    · rw[if_pos hv,if_pos hv,Ab,AU (by unfold BD;omega),O0 _ l [34] (by simp;omega)]
      exact Tm l (by omega)
    · rw[if_neg hv,if_neg hv]
end
end Go.VM
namespace Go.VM
theorem AKQ (a b:UInt8):a<b∨a=b∨b<a:=by
  rcases Nat.lt_trichotomy a.toNat b.toNat with h|h|h
  · exact .inl (UInt8.lt_iff_toNat_lt.2 h)
  · exact .inr (.inl (UInt8.toNat_inj.1 h))
  · exact .inr (.inr (UInt8.lt_iff_toNat_lt.2 h))
theorem AJc (a:UInt8): ¬a<a:=fun h=>Nat.lt_irrefl _ (UInt8.lt_iff_toNat_lt.1 h)
theorem ALN{a b c:UInt8} (h:a<b) (k:b<c):a<c:=UInt8.lt_iff_toNat_lt.2 (Nat.lt_trans (UInt8.lt_iff_toNat_lt.1 h) (UInt8.lt_iff_toNat_lt.1 k))
theorem AAz: ∀a b:List UInt8,Op.bytesLess a b=true∨a=b∨Op.bytesLess b a=true
  |[],[]=>.inr (.inl rfl)
  |[],_::_=>.inl (by simp[Op.bytesLess])
  |_::_,[]=>.inr (.inr (by simp[Op.bytesLess]))
  | a::x,b::y=>by
    simp only[Op.bytesLess,Bool.or_eq_true,decide_eq_true_eq,Bool.and_eq_true,beq_iff_eq]
    rcases AKQ a b with h|rfl|h
    · exact .inl (.inl h)
    · rcases AAz x y with h|rfl|h
      · exact .inl (.inr ⟨rfl,h⟩)
      · exact .inr (.inl rfl)
      · exact .inr (.inr (.inr ⟨rfl,h⟩))
    · exact .inr (.inr (.inl h))
theorem Z4: ∀a:List UInt8,Op.bytesLess a a=false
  |[]=>rfl
  |a::x=>by simp[Op.bytesLess,AJc,Z4 x]
theorem ABO: ∀ {a b c:List UInt8},Op.bytesLess a b=true→Op.bytesLess b c=true→Op.bytesLess a c=true
  |[],[],_,h,_=>by simp[Op.bytesLess]at h
  |[],_::_,[],_,k=>by simp[Op.bytesLess]at k
  |[],_::_,_::_,_,_=>by simp[Op.bytesLess]
  |_::_,[],_,h,_=>by simp[Op.bytesLess]at h
  |_::_,_::_,[],_,k=>by simp[Op.bytesLess]at k
  | a::x,b::y,c::z,h,k=>by
    simp only[Op.bytesLess,Bool.or_eq_true,decide_eq_true_eq,Bool.and_eq_true,beq_iff_eq]at h k⊢
    rcases h with h|⟨rfl,h⟩
    · rcases k with k|⟨rfl,k⟩
      · exact .inl (ALN h k)
      · exact .inl h
    · rcases k with k|⟨rfl,k⟩
      · exact .inl k
      · exact .inr ⟨rfl,ABO h k⟩
def leB (a b:List UInt8):Bool:=Op.bytesLess a b||a==b
theorem TH (a b:List UInt8):(leB a b||leB b a)=true:=by
  unfold leB
  rcases AAz a b with h|rfl|h<;>simp[*]
theorem TR (a b c:List UInt8) (h:leB a b=true) (k:leB b c=true):leB a c=true:=by
  unfold leB at *
  simp only[Bool.or_eq_true,beq_iff_eq]at *
  rcases h with h|rfl
  · rcases k with k|rfl
    · exact .inl (ABO h k)
    · exact .inl h
  · exact k
theorem Xg{a b:List UInt8} (h:leB a b=true) (k:leB b a=true):a=b:=by
  unfold leB at *
  simp only[Bool.or_eq_true,beq_iff_eq]at *
  rcases h with h|rfl
  · rcases k with k|rfl
    · have:=ABO h k;rw[Z4]at this;cases this
    · rfl
  · rfl
def Asc (l:List (List UInt8)):Prop:=l.Pairwise fun a b=>leB a b=true
theorem QO{l m:List (List UInt8)} (hp:l.Perm m) (h1:Asc l) (h2:Asc m):l=m:=
  List.Perm.eq_of_pairwise (le:=fun a b=>leB a b=true) (fun a b _ _=>Xg) h1 h2 hp
def Hy (l:List (List UInt8)):List (List UInt8):=l.mergeSort leB
theorem JB (l:List (List UInt8)):(Hy l).Perm l:=List.mergeSort_perm l leB
theorem OG (l:List (List UInt8)):Asc (Hy l):=List.pairwise_mergeSort TR TH l
section
variable{N:Nat}
theorem Lx{n:Nat} (h:n≤1000000000):Cc n 16:=by unfold Cc;omega
theorem L6: ∀(k:Nat) (a b o:List (List UInt8)),a.length+b.length<k→a.length+b.length+o.length≤1000000→
    DI N (fun j7=>grd (Cc (j7.2.2.length+j7.1.length) 16) (grd (Cc ((j7.2.2++j7.1).length+j7.2.1.length) 16) (some ((j7.2.2++j7.1)++j7.2.1)))) k a b o=some (o++List.merge a b leB)
  |0,_,_,_,h,_=>by omega
  | k+1,[],b,o,h,hb=>by
    rw[DI]
    simp only[List.length_nil]at hb
    simp only[Ab,List.length_nil,if_neg (show¬decide ((((0:Nat):Int))>0)=true by decide),Bool.false_eq_true,if_false]
    rw[AU (Lx (by simp;omega)),AU (Lx (by simp;omega))]
    simp
  | k+1,x::a,[],o,h,hb=>by
    rw[DI]
    simp only[List.length_nil,List.length_cons]at hb
    have c1:decide ((((x::a).length:Nat):Int)>0)=true:=by simp
    simp only[Ab,c1,if_true,List.length_nil,show decide ((((0:Nat):Int))>0)=false from rfl,Bool.false_eq_true,if_false]
    rw[AU (Lx (by simp;omega)),AU (Lx (by simp;omega))]
    simp
  | k+1,x::a,y::b,o,h,hb=>by
    rw[DI]
    simp only[List.length_cons]at hb h
    have c1:decide ((((x::a).length:Nat):Int)>0)=true:=by simp
    have c2:decide ((((y::b).length:Nat):Int)>0)=true:=by simp
    have i1:idx (x::a) 0=some x:=rfl
    have i2:idx (y::b) 0=some y:=rfl
    have s1:sub (x::a) 1 (((x::a).length:Nat):Int)=some a:=by
      have:=Fh (x::a) 1 (x::a).length (by simp) (by simp)
      simpa using this
    have s2:sub (y::b) 1 (((y::b).length:Nat):Int)=some b:=by
      have:=Fh (y::b) 1 (y::b).length (by simp) (by simp)
      simpa using this
    simp only[Ab,c1,c2,if_true,i1,i2,Option.bind_some,s1,s2]
    rw[AU (Lx (by omega)),List.cons_merge_cons]
    show(if leB x y=true then _ else _)=_
    split
    · rw[L6 k a (y::b) (o++[x]) (by simp;omega) (by simp;omega)];simp
    · rw[AU (Lx (by omega)),L6 k (x::a) b (o++[y]) (by simp;omega) (by simp;omega)];simp
theorem Oo: ∀(D:Nat) (l:List (List UInt8)),l.length≤D→l.length≤1000000→l.length<N→ ∃s,D6 N (D+1) l=some s∧s.Perm l∧Asc s
  | D,l,hD,hb,hN=>by
    rw[D6]
    by_cases h2:l.length<2
    · rw[if_pos (by simp;omega)]
      refine⟨l,rfl,List.Perm.refl _,?_⟩
      match l,h2 with
      |[],_=>exact .nil
      |[x],_=>exact List.pairwise_singleton _ _
      |_::_::_,h2=>simp only[List.length_cons]at h2;omega
    · rw[if_neg (by simp;omega)]
      obtain⟨D,rfl⟩: ∃e,D=e+1:=⟨D-1,by omega⟩
      have e0:wr .i64 ((l.length:Int).tdiv 2)=((l.length / 2:Nat):Int):=by
        rw[show(l.length:Int).tdiv 2=((l.length / 2:Nat):Int)from rfl]
        exact Hd (by omega)
      have l1:(l.take (l.length / 2)).length=l.length / 2:=by rw[List.length_take];omega
      have l2:(l.drop (l.length / 2)).length=l.length-l.length / 2:=by rw[List.length_drop]
      obtain⟨s1,a1,a2,a3⟩:=Oo D (l.take (l.length / 2)) (by omega) (by omega) (by omega)
      obtain⟨s2,b1,b2,b3⟩:=Oo D (l.drop (l.length / 2)) (by omega) (by omega) (by omega)
      have n1:=a2.length_eq;have n2:=b2.length_eq
      rw[e0,show(0:Int)=((0:Nat):Int)from rfl,Fh l 0 (l.length / 2) (by omega) (by omega),Option.bind_some]
      simp only[List.drop_zero,Nat.sub_zero]
      rw[a1,Option.bind_some,Fh l (l.length / 2) l.length (by omega) (by omega),Option.bind_some,List.take_of_length_le (by rw[l2];exact Nat.le_refl _),b1,Option.bind_some,Ab]
      rw[L6 N s1 s2 [] (by omega) (by simp;omega)]
      refine⟨_,rfl,?_,?_⟩
      · have:=(List.merge_perm_append (le:=leB) (xs:=s1) (ys:=s2)).trans (a2.append b2)
        simpa using this
      · exact List.pairwise_merge TR TH s1 s2 a3 b3
theorem Ke (l:List (List UInt8)) (hb:l.length≤1000000) (hN:l.length<N):D6 N N l=some (Hy l):=by
  obtain⟨M,rfl⟩: ∃M,N=M+1:=⟨N-1,by omega⟩
  obtain⟨s,h1,h2,h3⟩:=Oo (N:=M+1) M l (by omega) hb hN
  rw[h1,QO (h2.trans (JB l).symm) h3 (OG l)]
def JQ (N:Nat) (l:List (List UInt8)):Bool:=decide l.Nodup&&l.all fun k=>(DF N k).isSome
theorem ADF{a b:List UInt8}{l:List (List UInt8)} (h:Asc (a::b::l)) (hne:a≠b):a∉b::l:=by
  intro hm
  rcases List.mem_cons.1 hm with e|hm
  · exact hne e
  · unfold Asc at h
    simp only[List.pairwise_cons,List.mem_cons]at h
    have h1:=h.1 b (.inl rfl)
    have h2:=h.2.1 a hm
    exact hne (Xg h1 h2)
theorem TW (k4:Unit→Option Bool) (h4:k4 ()=some true) (s:List (List UInt8)) (hb:s.length≤1000000): ∀(suf pre:List (List UInt8)),s=pre++suf→Asc s→(∀k,k∈suf→k.length≤2^50∧k.length+5≤N)→
    Ce N s k4 suf (pre.length:Int)=some ((match pre.getLast? with|some x=>decide (x∉suf)|none=>true)&&decide suf.Nodup&&suf.all fun k=>(DF N k).isSome)
  |[],pre,hs,_,_=>by rw[Ce,h4];cases pre.getLast?<;>simp
  | k::suf,pre,hs,ha,hl=>by
    have hk:=hl k (by simp)
    have ih:=TW k4 h4 s hb suf (pre++[k]) (by rw[hs];simp) ha (fun x hx=>hl x (by simp[hx]))
    simp only[List.getLast?_append,List.getLast?_singleton,Option.some_or]at ih
    have hlen:pre.length<s.length:=by rw[hs];simp
    rw[Ce]
    simp only[Ab]
    rw[OO (by omega) (by omega),Option.bind_some,Kk pre k,ih]
    cases hv:(DF N k).isSome
    · simp[hv]
    · simp only[if_true]
      rcases List.eq_nil_or_concat pre with rfl|⟨p,x,rfl⟩
      · simp[hv,List.nodup_cons,Bool.and_comm,Bool.and_assoc]
      · have hx:idx s (wr .i64 (((p.concat x).length:Int)-1))=some x:=by
          have e:(((p.concat x).length:Int)-1)=((p.length:Nat):Int):=by simp
          rw[e,Hd (by simp at hlen;omega),Mc,hs]
          simp
        rw[if_pos (by simp),hx,Option.bind_some]
        have ha2:Asc (x::k::suf):=by
          have:s=p++(x::k::suf):=by rw[hs];simp
          rw[this]at ha
          exact(List.pairwise_append.1 ha).2.1
        by_cases hxk:x=k
        · subst hxk;simp
        · have hnm:=ADF ha2 hxk
          simp[hxk,hv,hnm,List.nodup_cons,Bool.and_comm,Bool.and_assoc]
theorem Uz (l:List (List UInt8)) (hb:l.length≤1000000) (hN:l.length<N) (hl: ∀k,k∈l→k.length≤2^50∧k.length+5≤N):Gf N l=some (JQ N l):=by
  have hp:=JB l
  unfold Gf
  rw[Ke l hb hN,Option.bind_some,Ab,JA (by rw[hp.length_eq];omega)]
  have:=TW (N:=N) (fun _=>some true) rfl (Hy l) (by rw[hp.length_eq];exact hb) (Hy l) [] rfl (OG l) (fun k hk=>hl k (hp.mem_iff.1 hk))
  refine this.trans ?_
  unfold JQ
  congr 1
  have e1:decide (Hy l).Nodup=decide l.Nodup:=by rw[decide_eq_decide];exact hp.nodup_iff
  have e2:((Hy l).all fun k=>(DF N k).isSome)=l.all fun k=>(DF N k).isSome:=by
    rw[Bool.eq_iff_iff,List.all_eq_true,List.all_eq_true]
    exact⟨fun h x hx=>h x (hp.mem_iff.2 hx),fun h x hx=>h x (hp.mem_iff.1 hx)⟩
  simp[e1,e2]
end
end Go.VM
namespace Go.VM
def at0 (d:List Int) (i:Nat):Int:=d.getD i 0
def swD (d:List Int) (i j:Nat):List Int:=(d.set i (at0 d j)).set j (at0 d i)
section
variable{d d' e:List Int}{a b i j k n:Nat}
theorem EY:(swD d i j).length=d.length:=by simp[swD]
theorem Q7 (h:i<d.length):at0 d i=d[i]:=by simp[at0,h]
theorem H5 (hi:i<d.length) (hj:j<d.length):at0 (swD d i j) k=if k=j then at0 d i else if k=i then at0 d j else at0 d k:=by
  unfold at0 swD
  rw[List.getD_eq_getElem?_getD]
  by_cases h:k=j
  · subst h;rw[if_pos rfl,List.getElem?_set_self (by simpa using hj)];rfl
  · rw[if_neg h,List.getElem?_set_ne (fun e=>h e.symm)]
    by_cases h2:k=i
    · subst h2;rw[if_pos rfl,List.getElem?_set_self hi];rfl
    · rw[if_neg h2,List.getElem?_set_ne (fun e=>h2 e.symm),←List.getD_eq_getElem?_getD]
theorem KW (h:i<d.length):idx d (i:Int)=some (at0 d i):=by
  rw[Mc,List.getElem?_eq_getElem h,Q7 h]
theorem AIM (hi:i<d.length) (hj:j<d.length):(swD d i j).Perm d:=by
  rw[List.perm_iff_count]
  intro x
  unfold swD
  rw[Q7 hi,Q7 hj]
  have hj':j<(d.set i d[j]).length:=by simpa using hj
  rw[List.count_set hj',List.count_set hi,List.getElem_set]
  have p1:(d[i]==x)=true→0<d.count x:=fun h=>List.count_pos_iff.2 (by rw[←beq_iff_eq.1 h];exact List.getElem_mem hi)
  have p2:(d[j]==x)=true→0<d.count x:=fun h=>List.count_pos_iff.2 (by rw[←beq_iff_eq.1 h];exact List.getElem_mem hj)
  by_cases e:i=j
  · subst e
    rw[if_pos rfl]
    split<;>simp_all<;>omega
  · rw[if_neg e]
    cases h1:d[i]==x<;>cases h2:d[j]==x<;>simp_all<;>omega
inductive Sw (a b:Nat):List Int→List Int→Prop
  |refl (d:List Int):Sw a b d d
  |step{d d':List Int} (h:Sw a b d d') (i j:Nat) (hi:a≤i∧i<b) (hj:a≤j∧j<b):Sw a b d (swD d' i j)
theorem Sw.one (hi:a≤i∧i<b) (hj:a≤j∧j<b):Sw a b d (swD d i j):=.step (.refl d) i j hi hj
theorem Sw.trans (h:Sw a b d d') (k:Sw a b d' e):Sw a b d e:=by
  induction k with
  |refl=>exact h
  |step _ i j hi hj ih=>exact .step ih i j hi hj
theorem Sw.mono{a' b':Nat} (h:Sw a b d d') (ha:a'≤a) (hb:b≤b'):Sw a' b' d d':=by
  induction h with
  |refl=>exact .refl _
  |step _ i j hi hj ih=>exact .step ih i j (by omega) (by omega)
theorem Sw.len (h:Sw a b d d'):d'.length=d.length:=by
  induction h with
  |refl=>rfl
  |step _ i j hi hj ih=>rw[EY,ih]
theorem Sw.out (h:Sw a b d d') (hb:b≤d.length) (hk:k<a∨b≤k):at0 d' k=at0 d k:=by
  induction h with
  |refl=>rfl
  | step h i j hi hj ih=>
    have:=h.len
    rw[H5 (by omega) (by omega),if_neg (by omega),if_neg (by omega),ih]
theorem Sw.all (h:Sw a b d d') (hb:b≤d.length){p:Int→Prop} (hp: ∀k,a≤k→k<b→p (at0 d k)): ∀k,a≤k→k<b→p (at0 d' k):=by
  induction h with
  |refl=>exact hp
  | step h i j hi hj ih=>
    intro k k1 k2
    have:=h.len
    rw[H5 (by omega) (by omega)]
    split
    · exact ih i hi.1 hi.2
    · split
      · exact ih j hj.1 hj.2
      · exact ih k k1 k2
theorem Sw.perm (h:Sw a b d d') (hb:b≤d.length):d'.Perm d:=by
  induction h with
  |refl=>exact .refl _
  | step h i j hi hj ih=>
    have:=h.len
    exact(AIM (by omega) (by omega)).trans ih
end
def kth (c:ApiValue) (x:Int):List UInt8:=c.keys.getD x.toNat []
def ltI (c:ApiValue) (x y:Int):Bool:=Op.bytesLess (kth c x) (kth c y)
theorem AH0 (c:ApiValue) (x:Int):ltI c x x=false:=Z4 _
theorem Ol{c:ApiValue}{x y z:Int} (h:ltI c x y=true) (k:ltI c y z=true):ltI c x z=true:=ABO h k
theorem AKf{c:ApiValue}{x y:Int} (h:ltI c x y=true):ltI c y x=false:=by
  cases e:ltI c y x
  · rfl
  · have:=Ol h e;rw[AH0]at this;cases this
structure Row (c:ApiValue) (d:List Int):Prop where
  big:d.length≤2000
  rng: ∀i,i<d.length→0≤at0 d i∧(at0 d i).toNat<c.keys.length
  dis: ∀i j,i<d.length→j<d.length→i≠j→ltI c (at0 d i) (at0 d j)=true∨ltI c (at0 d j) (at0 d i)=true
section
variable{N:Nat}{c:ApiValue}{d d':List Int}{a b i j l0:Nat}
theorem Row.sw (h:Row c d) (hi:i<d.length) (hj:j<d.length):Row c (swD d i j):=by
  refine⟨by rw[EY];exact h.big,fun k hk=>?_,fun k l hk hl hne=>?_⟩
  · rw[EY]at hk
    rw[H5 hi hj]
    split
    · exact h.rng i hi
    · split
      · exact h.rng j hj
      · exact h.rng k hk
  · rw[EY]at hk hl
    rw[H5 hi hj,H5 hi hj]
    split<;>split<;>(try split)<;>(try split)<;>first|(exact absurd (by omega) hne)|exact h.dis _ _ (by omega) (by omega) (by omega)
theorem Sw.row (h:Sw a b d d') (hb:b≤d.length) (k:Row c d):Row c d':=by
  induction h with
  |refl=>exact k
  | step h i j hi hj ih=>
    have:=h.len
    exact ih.sw (by omega) (by omega)
theorem Row.gt (h:Row c d) (hi:i<d.length) (hj:j<d.length) (hne:i≠j) (hn:ltI c (at0 d i) (at0 d j)=false):ltI c (at0 d j) (at0 d i)=true:=by
  rcases h.dis i j hi hj hne with e|e
  · rw[hn]at e;cases e
  · exact e
def AIU (c:ApiValue) (x y:Int):Int:=if Op.bytesLess (kth c x) (kth c y)=true then-1 else if(kth c x==kth c y)=true then 0 else 1
theorem IE (x y:Int):decide (AIU c x y<0)=ltI c x y:=by
  unfold AIU ltI
  cases Op.bytesLess (kth c x) (kth c y)
  · simp only[Bool.false_eq_true,if_false];split<;>decide
  · simp
theorem cmp_eq (h:Row c d) (i j:Nat) (hi:i<d.length) (hj:j<d.length):BS N (at0 d i) (at0 d j) c=some (AIU c (at0 d i) (at0 d j)):=by
  have key: ∀k,k<d.length→idx c.keys (at0 d k)=some (kth c (at0 d k)):=fun k hk=>by
    obtain⟨h1,h2⟩:=h.rng k hk
    unfold idx kth
    rw[if_pos h1,List.getElem?_eq_getElem h2,List.getD_eq_getElem?_getD,List.getElem?_eq_getElem h2];rfl
  unfold BS GR cmp_isNaN_string
  rw[key i hi,key j hj]
  simp only[Option.bind_some,beq_self_eq_true,Bool.not_true,Bool.false_eq_true,if_false]
  unfold AIU
  split
  · rfl
  · split<;>rfl
def Asc' (c:ApiValue) (a b:Nat) (d:List Int):Prop:= ∀p q,a≤p→p<q→q<b→ltI c (at0 d p) (at0 d q)=true
def InsI (c:ApiValue) (a i s:Nat) (d:List Int):Prop:= ∀p q,a≤p→p<q→q≤i→q≠s→ltI c (at0 d p) (at0 d q)=true
theorem InsI.step (hi:i<d.length){t:Nat} (ht:a≤t) (hti:t+1≤i) (h:InsI c a i (t+1) d) (hl:ltI c (at0 d (t+1)) (at0 d t)=true):InsI c a i t (swD d (t+1) t):=by
  intro p q h1 h2 h3 h4
  rw[H5 (by omega) (by omega),H5 (by omega) (by omega),if_neg h4]
  by_cases e1:q=t+1
  · subst e1
    rw[if_pos rfl]
    by_cases e2:p=t
    · rw[if_pos e2];exact hl
    · rw[if_neg e2,if_neg (by omega)]
      exact h p t h1 (by omega) (by omega) (by omega)
  · rw[if_neg e1]
    by_cases e2:p=t
    · rw[if_pos e2];exact h (t+1) q (by omega) (by omega) h3 e1
    · rw[if_neg e2]
      by_cases e3:p=t+1
      · rw[if_pos e3];exact h t q ht (by omega) h3 e1
      · rw[if_neg e3];exact h p q h1 h2 h3 e1
theorem InsI.done (hr:Row c d) (hi:i<d.length){s:Nat} (hs:a≤s) (hsi:s≤i) (h:InsI c a i s d) (hl:s=a∨ ∃t,s=t+1∧a≤t∧ltI c (at0 d s) (at0 d t)=false):Asc' c a (i+1) d:=by
  intro p q h1 h2 h3
  by_cases e:q=s
  · subst e
    rcases hl with rfl|⟨t,rfl,ht,hl⟩
    · omega
    · have hg:=hr.gt (by omega) (by omega) (by omega) hl
      by_cases e2:p=t
      · rw[e2];exact hg
      · exact Ol (h p t h1 (by omega) (by omega) (by omega)) hg
  · exact h p q h1 h2 (by omega) e
theorem Sq (k3:List Int→Option (List Int)) (hi:i<l0): ∀(s k:Nat) (d:List Int),a≤s→s≤i→d.length=l0→s<k→Row c d→InsI c a i s d→
    ∃d',Aq N l0 (a:Int) c k3 k (s:Int) d=k3 d'∧Sw a (i+1) d d'∧Asc' c a (i+1) d'
  |s,0,d,_,_,_,hk,_,_=>by omega
  | s,k+1,d,h1,h2,hl,hk,hr,hI=>by
    have hb:=hr.big
    rw[Aq]
    simp only[Ab]
    by_cases hs:s=a
    · subst hs
      rw[if_neg (by simp),if_neg (by decide)]
      exact⟨d,rfl,.refl d,hI.done hr (by omega) h1 h2 (.inl rfl)⟩
    · obtain⟨t,rfl⟩: ∃t,s=t+1:=⟨s-1,by omega⟩
      have e1:((t+1:Nat):Int)-1=(t:Int):=by omega
      have hc:=cmp_eq (N:=N) hr
      rw[if_pos (by simp only[decide_eq_true_eq];omega)]
      simp(disch:=omega) only[e1,A8,AU,KW,Option.bind_some,hc,IE,Int.toNat_natCast]
      cases hlt:ltI c (at0 d (t+1)) (at0 d t)
      · rw[if_neg (by decide)]
        exact⟨d,rfl,.refl d,hI.done hr (by omega) h1 h2 (.inr ⟨t,rfl,by omega,hlt⟩)⟩
      · rw[if_pos rfl]
        obtain⟨d',f1,f2,f3⟩:=Sq k3 hi t k (swD d (t+1) t) (by omega) (by omega) (by rw[EY];exact hl) (by omega) (hr.sw (by omega) (by omega)) (hI.step (by omega) (by omega) (by omega) hlt)
        exact⟨d',f1,(Sw.one (by omega) (by omega)).trans f2,f3⟩
theorem TL (hb:b≤l0) (hN:b<N): ∀(m i:Nat) (d:List Int),a<i→i+m=b→d.length=l0→Row c d→Asc' c a i d→
    ∃d',AQ N l0 (a:Int) c m (i:Int) d=some d'∧Sw a b d d'∧Asc' c a b d'
  | 0,i,d,_,h2,_,_,hA=>by
    rw[AQ]
    exact⟨d,rfl,.refl d,by rw[←h2];exact hA⟩
  | m+1,i,d,h1,h2,hl,hr,hA=>by
    rw[AQ]
    simp only[Ab]
    obtain⟨d1,f1,f2,f3⟩:=Sq (N:=N) (a:=a) (c:=c) (fun j2=>AQ N l0 (a:Int) c m ((i:Int)+1) j2) (show i<l0 by omega) i N d (by omega) (by omega) hl (by omega) hr (fun p q k1 k2 k3 k4=>hA p q k1 k2 (by omega))
    rw[f1]
    have hr1:=f2.row (by omega) hr
    obtain⟨d2,g1,g2,g3⟩:=TL hb hN m (i+1) d1 (by omega) (by omega) (by rw[f2.len];exact hl) hr1 f3
    exact⟨d2,g1,(f2.mono (by omega) (by omega)).trans g2,g3⟩
theorem AKU (h:Row c d) (hab:a<b) (hb:b≤d.length) (hN:b<N):Ok (Aw N d.length d a b c) fun d'=>Sw a b d d'∧Asc' c a b d':=by
  have hbig:=h.big
  unfold Aw
  rw[show(a:Int)+1=((a+1:Nat):Int) by simp,Hd (by omega),AU (by omega),show(((b:Nat):Int)-((a+1:Nat):Int)).toNat=b-(a+1) by omega]
  obtain⟨d',f1,f2,f3⟩:=TL (N:=N) (c:=c) (a:=a) hb hN (b-(a+1)) (a+1) d (by omega) (by omega) rfl h (fun p q k1 k2 k3=>by omega)
  exact⟨d',f1,f2,f3⟩
end
end Go.VM
namespace Go.VM
def HF (c:ApiValue) (a lo hi:Nat) (d:List Int):Prop:= ∀r ch,lo≤r→(ch=2 * r+1∨ch=2 * r+2)→ch<hi→ltI c (at0 d (a+ch)) (at0 d (a+r))=true
structure HP (c:ApiValue) (a lo hi r0:Nat) (d:List Int):Prop where
  own: ∀r ch,lo≤r→r≠r0→(ch=2 * r+1∨ch=2 * r+2)→ch<hi→ltI c (at0 d (a+ch)) (at0 d (a+r))=true
  up: ∀r ch,lo≤r→(r0=2 * r+1∨r0=2 * r+2)→(ch=2 * r0+1∨ch=2 * r0+2)→ch<hi→ltI c (at0 d (a+ch)) (at0 d (a+r))=true
section
variable{N:Nat}{c:ApiValue}{d d':List Int}{a b lo hi l0 r:Nat}
theorem HP.swap (h:HP c a lo hi r d){m:Nat} (hlen:a+hi≤d.length) (hlo:lo≤r) (hm:m=2 * r+1∨m=2 * r+2) (hmh:m<hi) (hlt:ltI c (at0 d (a+r)) (at0 d (a+m))=true)
    (hmax: ∀o,(o=2 * r+1∨o=2 * r+2)→o<hi→o≠m→ltI c (at0 d (a+o)) (at0 d (a+m))=true):HP c a lo hi m (swD d (a+r) (a+m)):=by
  have rd: ∀x,at0 (swD d (a+r) (a+m)) (a+x)=if x=m then at0 d (a+r)else if x=r then at0 d (a+m)else at0 d (a+x):=fun x=>by
    rw[H5 (by omega) (by omega)]
    by_cases e1:x=m
    · rw[if_pos (by omega),if_pos e1]
    · by_cases e2:x=r
      · rw[if_neg (by omega),if_pos (by omega),if_neg e1,if_pos e2]
      · rw[if_neg (by omega),if_neg (by omega),if_neg e1,if_neg e2]
  constructor
  · intro x ch h1 h2 h3 h4
    rw[rd,rd,if_neg h2]
    by_cases e1:x=r
    · subst e1
      rw[if_pos rfl]
      by_cases e2:ch=m
      · rw[if_pos e2];exact hlt
      · rw[if_neg e2,if_neg (by omega)];exact hmax ch h3 h4 e2
    · rw[if_neg e1,if_neg (by omega)]
      by_cases e3:ch=r
      · subst e3;rw[if_pos rfl];exact h.up x m h1 h3 hm hmh
      · rw[if_neg e3];exact h.own x ch h1 e1 h3 h4
  · intro x ch h1 h2 h3 h4
    have:x=r:=by omega
    subst this
    rw[rd,rd,if_neg (by omega),if_neg (by omega),if_neg (by omega),if_pos rfl]
    exact h.own m ch (by omega) (by omega) h3 h4
theorem HP.done (h:HP c a lo hi r d) (hr: ∀ch,(ch=2 * r+1∨ch=2 * r+2)→ch<hi→ltI c (at0 d (a+ch)) (at0 d (a+r))=true):HF c a lo hi d:=by
  intro x ch h1 h2 h3
  by_cases e:x=r
  · subst e;exact hr ch h2 h3
  · exact h.own x ch h1 e h2 h3
theorem TU (hb:a+hi≤l0): ∀(k r:Nat) (d:List Int),lo≤r→hi+1≤r+k→1≤k→d.length=l0→Row c d→HP c a lo hi r d→r≤hi→
    Ok (Ap N l0 (hi:Int) (a:Int) c k (r:Int) d) fun d'=>Sw a (a+hi) d d'∧HF c a lo hi d'
  |0,r,d,_,_,hk,_,_,_,_=>by omega
  | k+1,r,d,h1,h2,_,hl,hr,hp,hrh=>by
    have hbig:=hr.big
    have hc:=cmp_eq (N:=N) hr
    have e2:(2:Int) * (r:Int)=((2 * r:Nat):Int):=by omega
    have e3:((2 * r:Nat):Int)+1=((2 * r+1:Nat):Int):=by omega
    have e4:((2 * r+1:Nat):Int)+1=((2 * r+2:Nat):Int):=by omega
    have e5:(a:Int)+((2 * r+1:Nat):Int)=((a+(2 * r+1):Nat):Int):=by omega
    have e6:((a+(2 * r+1):Nat):Int)+1=((a+(2 * r+2):Nat):Int):=by omega
    have e7:(a:Int)+(r:Int)=((a+r:Nat):Int):=by omega
    rw[Ap]
    simp only[Ab]
    by_cases hch:2 * r+1≥hi
    · simp(disch:=omega) only[e2,e3,A8]
      rw[if_pos (by simp only[decide_eq_true_eq];omega)]
      exact Ok.ret ⟨.refl d,hp.done fun ch k1 k2=>by omega⟩
    ·
      have main: ∀m:Nat,(m=2 * r+1∨m=2 * r+2)→m<hi→(∀o,(o=2 * r+1∨o=2 * r+2)→o<hi→o≠m→ltI c (at0 d (a+o)) (at0 d (a+m))=true)→
          Ok (if ltI c (at0 d (a+r)) (at0 d (a+m))=true then Ap N l0 (hi:Int) (a:Int) c k (m:Int) (swD d (a+r) (a+m))else some d) fun d'=>Sw a (a+hi) d d'∧HF c a lo hi d':=by
        intro m hm hmh hmax
        cases hlt:ltI c (at0 d (a+r)) (at0 d (a+m))
        · have hg:=hr.gt (i:=a+r) (j:=a+m) (by omega) (by omega) (by omega) hlt
          rw[if_neg (by decide)]
          refine Ok.ret ⟨.refl d,hp.done fun ch k1 k2=>?_⟩
          by_cases e:ch=m
          · subst e;exact hg
          · exact Ol (hmax ch k1 k2 e) hg
        · rw[if_pos rfl]
          refine(TU hb k m (swD d (a+r) (a+m)) (by omega) (by omega) (by omega) (by rw[EY];exact hl) (hr.sw (by omega) (by omega)) (hp.swap (by omega) h1 hm hmh hlt hmax) (by omega)).mono fun d' hd=>⟨(Sw.one (by omega) (by omega)).trans hd.1,hd.2⟩
      have e8: ∀m:Nat,(a:Int)+(m:Int)=((a+m:Nat):Int):=fun m=>by omega
      by_cases h22:2 * r+2<hi
      · simp(disch:=omega) only[e2,e3,e4,e5,e6,A8,AU,KW,Option.bind_some,hc,IE,Int.toNat_natCast]
        rw[if_neg (by simp only[decide_eq_true_eq];omega),if_pos (by simp only[decide_eq_true_eq];omega)]
        cases hx:ltI c (at0 d (a+(2 * r+1))) (at0 d (a+(2 * r+2)))
        · rw[if_neg (by decide)]
          have:=main (2 * r+1) (.inl rfl) (by omega) fun o o1 o2 o3=>by
            have:o=2 * r+2:=by omega
            subst this
            exact hr.gt (i:=a+(2 * r+1)) (j:=a+(2 * r+2)) (by omega) (by omega) (by omega) hx
          simpa(disch:=omega) only[swD,e7,e8,A8,AU,KW,Option.bind_some,hc,IE,Int.toNat_natCast]using this
        · rw[if_pos rfl]
          have:=main (2 * r+2) (.inr rfl) (by omega) fun o o1 o2 o3=>by
            have:o=2 * r+1:=by omega
            subst this
            exact hx
          simpa(disch:=omega) only[swD,e7,e8,A8,AU,KW,Option.bind_some,hc,IE,Int.toNat_natCast]using this
      · simp(disch:=omega) only[e2,e3,e4,A8]
        rw[if_neg (by simp only[decide_eq_true_eq];omega),if_neg (by simp only[decide_eq_true_eq];omega),if_neg (by decide)]
        have:=main (2 * r+1) (.inl rfl) (by omega) fun o o1 o2 o3=>by omega
        simpa(disch:=omega) only[swD,e7,e8,A8,AU,KW,Option.bind_some,hc,IE,Int.toNat_natCast]using this
theorem ABV (hb:a+hi≤d.length) (hr:Row c d) (hN:hi+1≤N) (hlo:lo≤hi) (hp:HP c a lo hi lo d):Ok (BM N d.length d (lo:Int) (hi:Int) (a:Int) c) fun d'=>Sw a (a+hi) d d'∧HF c a lo hi d':=by
  unfold BM
  exact TU hb N lo d (Nat.le_refl _) (by omega) (by omega) rfl hr hp hlo
theorem HF.top (h:HF c a 0 hi d): ∀k,0<k→k<hi→ltI c (at0 d (a+k)) (at0 d a)=true:=by
  intro k
  induction k using Nat.strongRecOn with
  | _ k ih=>
    intro h0 h1
    obtain⟨p,hp⟩: ∃p,k=2 * p+1∨k=2 * p+2:=⟨(k-1) / 2,by omega⟩
    have:=h p k (by omega) hp h1
    by_cases e:p=0
    · subst e;exact this
    · exact Ol this (ih p (by omega) (by omega) (by omega))
theorem Q0 (k2:List Int→Option (List Int)){Q:List Int→Prop} (hb:a+hi≤l0) (hbN:hi+1≤N) (hab:(b:Int)=a+hi) (hbig:l0≤2000) (hk2: ∀d',d'.length=l0→Row c d'→HF c a 0 hi d'→Ok (k2 d') fun d''=>Sw a (a+hi) d' d''∧Q d''): ∀(m k:Nat) (d:List Int),m<k→m≤hi→d.length=l0→Row c d→HF c a m hi d→
    Ok (Am N l0 (a:Int) (b:Int) c k2 k ((m:Int)-1) d) fun d'=>Sw a (a+hi) d d'∧Q d'
  |m,0,d,h,_,_,_,_=>by omega
  | 0,k+1,d,_,_,hl,hr,hh=>by
    rw[Am,if_neg (by simp)]
    exact hk2 d hl hr hh
  | m+1,k+1,d,h1,h2,hl,hr,hh=>by
    have e1:((m+1:Nat):Int)-1=(m:Int):=by omega
    have e2:(b:Int)-(a:Int)=(hi:Int):=by omega
    rw[Am,e1,if_pos (by simp),e2,A8 (by omega),A8 (by omega)]
    have hs:=ABV (N:=N) (c:=c) (d:=d) (a:=a) (lo:=m) (hi:=hi) (by omega) hr hbN (by omega) ⟨fun r ch k1 k2 k3 k4=>hh r ch (by omega) k3 k4,fun r ch k1 k2 k3 k4=>by omega⟩
    rw[hl]at hs
    refine hs.bind fun d1 hd=>?_
    refine(Q0 k2 hb hbN hab hbig hk2 m k d1 (by omega) (by omega) (by rw[hd.1.len];exact hl) (hd.1.row (by omega) hr) hd.2).mono fun d' h'=>⟨hd.1.trans h'.1,h'.2⟩
theorem Yq (hb:a+hi≤l0) (hbN:hi+1≤N) (hbig:l0≤2000): ∀(m k:Nat) (d:List Int),m<k→m≤hi→d.length=l0→Row c d→HF c a 0 m d→(∀p q,p<q→m≤q→q<hi→ltI c (at0 d (a+p)) (at0 d (a+q))=true)→
    Ok (Ao N l0 (a:Int) c k ((m:Int)-1) d) fun d'=>Sw a (a+hi) d d'∧Asc' c a (a+hi) d'
  |m,0,d,h,_,_,_,_,_=>by omega
  | 0,k+1,d,_,_,hl,hr,hh,hs=>by
    rw[Ao,if_neg (by simp)]
    refine Ok.ret ⟨.refl d,fun p q h1 h2 h3=>?_⟩
    obtain⟨p,rfl⟩: ∃x,p=a+x:=⟨p-a,by omega⟩
    obtain⟨q,rfl⟩: ∃x,q=a+x:=⟨q-a,by omega⟩
    exact hs p q (by omega) (by omega) (by omega)
  | m+1,k+1,d,h1,h2,hl,hr,hh,hs=>by
    have e1:((m+1:Nat):Int)-1=(m:Int):=by omega
    have e7:(a:Int)+(m:Int)=((a+m:Nat):Int):=by omega
    rw[Ao,e1,if_pos (by simp)]
    simp(disch:=omega) only[e7,A8,AU,KW,Option.bind_some,Int.toNat_natCast]
    have esw:(d.set a (at0 d (a+m))).set (a+m) (at0 d a)=swD d a (a+m):=rfl
    rw[esw]
    have rd: ∀x,at0 (swD d a (a+m)) (a+x)=if x=m then at0 d a else if x=0 then at0 d (a+m)else at0 d (a+x):=fun x=>by
      rw[H5 (by omega) (by omega)]
      by_cases e1:x=m
      · rw[if_pos (by omega),if_pos e1]
      · by_cases e2:x=0
        · rw[if_neg (by omega),if_pos (by omega),if_neg e1,if_pos e2]
        · rw[if_neg (by omega),if_neg (by omega),if_neg e1,if_neg e2]
    have hr1:=hr.sw (i:=a) (j:=a+m) (by omega) (by omega)
    have hsi:=ABV (N:=N) (c:=c) (d:=swD d a (a+m)) (a:=a) (lo:=0) (hi:=m) (by rw[EY];omega) hr1 (by omega) (by omega) ⟨fun r ch k1 k2 k3 k4=>by
        rw[rd,rd,if_neg (by omega),if_neg (by omega),if_neg (by omega),if_neg (by omega)]
        exact hh r ch k1 k3 (by omega),fun r ch k1 k2 k3 k4=>by omega⟩
    rw[EY,hl]at hsi
    refine hsi.bind fun d1 hd=>?_
    have htop:=hh.top
    have hord: ∀p q,p<q→m≤q→q<hi→ltI c (at0 d1 (a+p)) (at0 d1 (a+q))=true:=by
      intro p q p1 p2 p3
      have oq:at0 d1 (a+q)=at0 (swD d a (a+m)) (a+q):=hd.1.out (by rw[EY];omega) (.inr (by omega))
      have less: ∀x,x<q→ltI c (at0 (swD d a (a+m)) (a+x)) (at0 (swD d a (a+m)) (a+q))=true:=by
        intro x hx
        rw[rd,rd]
        by_cases eq:q=m
        · subst eq
          rw[if_pos rfl,if_neg (by omega)]
          by_cases ex:x=0
          · rw[if_pos ex];exact htop q (by omega) (by omega)
          · rw[if_neg ex];exact htop x (by omega) (by omega)
        · rw[if_neg eq,if_neg (by omega: ¬q=0)]
          by_cases ex:x=m
          · rw[if_pos ex];exact hs 0 q (by omega) (by omega) p3
          · rw[if_neg ex]
            by_cases ex0:x=0
            · rw[if_pos ex0];exact hs m q (by omega) (by omega) p3
            · rw[if_neg ex0];exact hs x q hx (by omega) p3
      rw[oq]
      by_cases hpm:p<m
      · exact hd.1.all (by rw[EY];omega) (p:=fun v=>ltI c v (at0 (swD d a (a+m)) (a+q))=true) (fun x x1 x2=>by
          obtain⟨y,rfl⟩: ∃y,x=a+y:=⟨x-a,by omega⟩
          exact less y (by omega)) (a+p) (by omega) (by omega)
      · have op:at0 d1 (a+p)=at0 (swD d a (a+m)) (a+p):=hd.1.out (by rw[EY];omega) (.inr (by omega))
        rw[op];exact less p p1
    refine(Yq hb hbN hbig m k d1 (by omega) (by omega) (by rw[hd.1.len,EY];exact hl) (hd.1.row (by rw[EY];omega) hr1) hd.2 hord).mono fun d' h'=>⟨((Sw.one (by omega) (by omega)).trans (hd.1.mono (Nat.le_refl _) (by omega))).trans h'.1,h'.2⟩
theorem AIJ (h:Row c d) (hab:a<b) (hb:b≤d.length) (hN:b+2≤N):Ok (Bb N d.length d (a:Int) (b:Int) c) fun d'=>Sw a b d d'∧Asc' c a b d':=by
  have hbig:=h.big
  obtain⟨hi,rfl⟩: ∃x,b=a+x:=⟨b-a,by omega⟩
  unfold Bb
  simp only[Ab]
  have e1:((a+hi:Nat):Int)-(a:Int)=(hi:Int):=by omega
  have e2:((hi:Int)-1).tdiv 2=(((hi-1) / 2+1:Nat):Int)-1:=by
    rw[show(hi:Int)-1=((hi-1:Nat):Int) by omega,show((hi-1:Nat):Int).tdiv 2=(((hi-1) / 2:Nat):Int)from rfl];omega
  rw[e1,A8 (n:=(hi:Int)) (by omega),A8 (n:=(hi:Int)-1) (by omega),e2,A8 (by omega)]
  exact Q0 (N:=N) (c:=c) (a:=a) (hi:=hi) (b:=a+hi) _ (Q:=fun d'=>Asc' c a (a+hi) d') hb (by omega) (by omega) hbig (fun d' k1 k2 k3=>Yq (N:=N) hb (by omega) hbig hi N d' (by omega) (Nat.le_refl _) k1 k2 k3 (fun p q q1 q2 q3=>by omega)) ((hi-1) / 2+1) N d (by omega) (by omega) rfl h (fun r ch k1 k2 k3=>by omega)
theorem Xx (hb:b≤l0) (hbig:l0≤2000): ∀(k i j:Nat) (d:List Int),a≤i→j≤b→b<k+i→1≤k→d.length=l0→i≤b→
    Ok (Au N l0 k (i:Int) ((j:Int)-1) d) fun d'=>Sw a b d d'
  |0,i,j,d,_,_,_,h,_,_=>by omega
  | k+1,i,j,d,h1,h2,h3,_,hl,_=>by
    rw[Au]
    by_cases hlt:i+1<j
    · obtain⟨t,rfl⟩: ∃t,j=t+1:=⟨j-1,by omega⟩
      have e1:((t+1:Nat):Int)-1=(t:Int):=by omega
      have e2:(i:Int)+1=((i+1:Nat):Int):=by omega
      rw[if_pos (by simp only[decide_eq_true_eq];omega),e1]
      simp(disch:=omega) only[e2,A8,AU,KW,Option.bind_some,Int.toNat_natCast]
      have:=Xx hb hbig k (i+1) t (swD d i t) (by omega) (by omega) (by omega) (by omega) (by rw[EY];exact hl) (by omega)
      exact this.mono fun d' h'=>(Sw.one (by omega) (by omega)).trans h'
    · rw[if_neg (by simp only[decide_eq_true_eq];omega)]
      exact Ok.ret (.refl d)
theorem AKG (h:Row c d) (hab:a<b) (hb:b≤d.length) (hN:b+2≤N):Ok (BV N d.length d (a:Int) (b:Int) c) fun d'=>Sw a b d d':=by
  have hbig:=h.big
  unfold BV
  rw[A8 (by omega)]
  exact Xx hb hbig N a b d (Nat.le_refl _) (Nat.le_refl _) (by omega) (by omega) rfl (by omega)
end
end Go.VM
