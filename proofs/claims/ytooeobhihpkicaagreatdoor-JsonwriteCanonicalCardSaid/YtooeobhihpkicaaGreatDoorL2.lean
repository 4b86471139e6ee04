import Derived.Test.YtooeobhihpkicaaGreatDoorL1
set_option linter.unusedVariables false
set_option linter.unusedSimpArgs false
namespace Go.VM
section
variable{N:Nat}
def HZ:List UInt8→Option Nat
  |x::y::a::b::c::d::_=>if x=92∧y=117∧ [a,b,c,d].all K3=true then some (RJ 0 [a,b,c,d])else none
  |_=>none
theorem PX{t:List UInt8} (h:t.length<6):HZ t=none:=by
  match t,h with
  |[],_=>rfl
  |[_],_=>rfl
  |[_,_],_=>rfl
  |[_,_,_],_=>rfl
  |[_,_,_,_],_=>rfl
  |[_,_,_,_,_],_=>rfl
  |_::_::_::_::_::_::_,h=>simp at h;omega
theorem six{t:List UInt8} (h: ¬t.length<6): ∃x y a b c d r,t=x::y::a::b::c::d::r:=by
  match t,h with
  |x::y::a::b::c::d::r,_=>exact⟨x,y,a,b,c,d,r,rfl⟩
  |[],h=>simp at h
  |[_],h=>simp at h
  |[_,_],h=>simp at h
  |[_,_,_],h=>simp at h
  |[_,_,_,_],h=>simp at h
  |[_,_,_,_,_],h=>simp at h
theorem AFU (l:List UInt8):(ACZ l).2=if l.all K3=true then 0 else 1:=by unfold ACZ;split<;>rfl
theorem AHo (l:List UInt8):(ACZ l).1=if l.all K3=true then((RJ 0 l:Nat):Int)else 0:=by unfold ACZ;split<;>rfl
theorem Nk{l t:List UInt8}{i:Nat} (ht:l.drop i=t) (hi:i≤l.length) (hb:l.length≤2^50):
    G6 N l (i:Int)=some (match HZ t with|some n=>((n:Int),true)|none=>(0,false)):=by
  have hl:=DC ht hi
  unfold G6
  have w6:wr .i64 ((i:Int)+6)=((i+6:Nat):Int):=by rw[Ak (by omega)];simp
  have w2:wr .i64 ((i:Int)+2)=((i+2:Nat):Int):=by rw[Ak (by omega)];simp
  have w1:wr .i64 ((i:Int)+1)=((i+1:Nat):Int):=by rw[Ak (by omega)];simp
  simp only[AR,w6,w2,w1]
  by_cases h6:t.length<6
  · have:((i+6:Nat):Int)>(l.length:Int):=by omega
    simp only[this,decide_true,if_true,PX h6]
  · have c0: ¬((i+6:Nat):Int)>(l.length:Int):=by omega
    simp only[c0,decide_false,Bool.false_eq_true,if_false]
    obtain⟨x,y,a,b,c,d,r,rfl⟩:=six h6
    have hx:=KX (j:=0) ht rfl
    simp only[Nat.add_zero]at hx
    have hy:=KX (j:=1) ht rfl
    rw[hx,Option.bind_some,hy,Option.bind_some,FE l (i+2) (i+6) (by omega) (by omega),Option.bind_some]
    have e:(l.drop (i+2)).take (i+6-(i+2))=[a,b,c,d]:=by
      rw[←List.drop_drop,ht,show i+6-(i+2)=4 by omega];rfl
    rw[e,AHU _ (by simp) (by simp),Option.bind_some]
    unfold HZ
    by_cases k1:x=92
    · have k1':((Am x) !=92)=false:=by subst k1;rfl
      simp only[k1',Bool.false_eq_true,if_false]
      by_cases k2:y=117
      · have k2':((Am y) !=117)=false:=by subst k2;rfl
        simp only[k2',Bool.false_eq_true,if_false,k1,k2,true_and]
        rw[AFU,AHo]
        by_cases k3:[a,b,c,d].all K3=true
        · have:=UX [a,b,c,d] 0 k3
          simp only[k3,if_true]
          rw[Hw (by simp at this;omega)];rfl
        · simp only[k3,if_false,Bool.false_eq_true];rfl
      · have k2':((Am y) !=117)=true:=by
          have: ¬y.toNat=117:=fun e=>k2 (UInt8.toNat_inj.1 e)
          simp only[bne_iff_ne,ne_eq,Am];omega
        simp only[k2',if_true,k2,false_and,and_false,if_false]
    · have k1':((Am x) !=92)=true:=by
        have: ¬x.toNat=92:=fun e=>k1 (UInt8.toNat_inj.1 e)
        simp only[bne_iff_ne,ne_eq,Am];omega
      simp only[k1',if_true,k1,false_and,if_false]
theorem Rs{l t:List UInt8}{i n:Nat} (hu:HZ t=some n) (ht:l.drop i=t) (hi:i≤l.length) (hb:l.length≤2^50):G6 N l (i:Int)=some ((n:Int),true):=by
  rw[Nk ht hi hb,hu]
theorem AAW{l t:List UInt8}{i:Nat} (hu:HZ t=none) (ht:l.drop i=t) (hi:i≤l.length) (hb:l.length≤2^50):G6 N l (i:Int)=some (0,false):=by
  rw[Nk ht hi hb,hu]
theorem L8{t:List UInt8}{n:Nat} (h:HZ t=some n):n<65536∧6≤t.length∧ ∃r,t=92::117::r:=by
  by_cases h6:t.length<6
  · rw[PX h6]at h;cases h
  · obtain⟨x,y,a,b,c,d,r,rfl⟩:=six h6
    simp only[HZ]at h
    by_cases hc:x=92∧y=117∧ [a,b,c,d].all K3=true
    · rw[if_pos hc]at h
      simp only[Option.some.injEq]at h;subst h
      have:=UX [a,b,c,d] 0 hc.2.2
      obtain⟨rfl,rfl,_⟩:=hc
      exact⟨by simpa using this,by simp,_,rfl⟩
    · rw[if_neg hc]at h;cases h
def Kb (n:Nat):Option UInt8:=
  if n=34 then some 34 else if n=92 then some 92 else if n=47 then some 47 else if n=98 then some 8 else if n=102 then some 12 else if n=110 then some 10 else if n=114 then some 13 else if n=116 then some 9 else none
def Lu (hi lo:Nat):Nat:=65536+(hi-55296) * 1024+lo-56320
def Ih (t:List UInt8):List UInt8×Nat×Int:=
  match HZ t with
  | some hi=>
    if 55296≤hi∧hi≤56319 then
      match HZ (t.drop 6)with
      |some lo=>if 56320≤lo∧lo≤57343 then(KU (Lu hi lo),12,0)else([],0,7)
      |none=>([],0,7)
    else if 56320≤hi∧hi≤57343 then([],0,7)else(KU hi,6,0)
  | none=>
    match t with
    |_::c::_=>match Kb c.toNat with|some b=>([b],2,0)|none=>([],0,130)
    |_=>([],0,130)
def Z5 (i:Nat) (r:List UInt8×Nat×Int):List UInt8×Int×Int:=if r.2.2=0 then(r.1,((i+r.2.1:Nat):Int),0)else([],0,r.2.2)
theorem Px{i n:Nat}{x:List UInt8}:Z5 i (x,n,0)=(x,((i+n:Nat):Int),0):=rfl
theorem OQ{i:Nat}:Z5 i ([],0,7)=([],0,7):=rfl
theorem QL{i:Nat}:Z5 i ([],0,130)=([],0,130):=rfl
theorem AEj: ∀j:Nat,j<8→(EE [34,92,47,98,102,110,114,116] j).2=1:=by
  intro j h
  match j,h with
  |0,_=>rfl
  |1,_=>rfl
  |2,_=>rfl
  |3,_=>rfl
  |4,_=>rfl
  |5,_=>rfl
  |6,_=>rfl
  |7,_=>rfl
def OU (n:Nat):Nat→Nat→Option UInt8
  |0,_=>none
  |k+1,j=>if([34,92,47,98,102,110,114,116]:List Nat)[j]?=some n then([34,92,47,8,12,10,13,9]:List UInt8)[j]? else OU n k (j+1)
theorem Rz{l:List UInt8}{i:Nat}{c:UInt8} (hc:idx l ((i+1:Nat):Int)=some c) (hb:i+10≤2^60) (k2:Unit→Option (List UInt8×Int×Int)):
    ∀(m k j:Nat),j+m=8→m<k→DX N l (i:Int) k2 k j=match OU c.toNat m j with|some b=>some ([b],((i+2:Nat):Int),0)|none=>k2 ()
  | 0,k+1,j,h,_=>by
    rw[DX]
    have: ¬j<8:=by omega
    simp[this,OU]
  | m+1,k+1,j,h,hk=>by
    rw[DX]
    have hj:j<8:=by omega
    have w1:wr .i64 ((i:Int)+1)=((i+1:Nat):Int):=by rw[Ak (by omega)];simp
    have w2:wr .i64 ((i:Int)+2)=((i+2:Nat):Int):=by rw[Ak (by omega)];simp
    have w3:wr .i64 ((j:Int)+1)=((j+1:Nat):Int):=by rw[Ak (by omega)];simp
    simp only[hj,decide_true,if_true,w1,w2,w3,hc,Option.bind_some,AEj j hj]
    rw[Rz hc hb k2 m k (j+1) (by omega) (by omega),OU]
    have hcn:=c.toNat_lt
    obtain⟨x,y,e1,e2,e3,e4⟩: ∃x y:UInt8,idx ([34,92,47,98,102,110,114,116]:List UInt8) (j:Int)=some x∧([34,92,47,98,102,110,114,116]:List Nat)[j]?=some x.toNat∧([34,92,47,8,12,10,13,9]:List UInt8)[j]?=some y∧sub ([34,92,47,8,12,10,13,9]:List UInt8) (j:Int) ((j+1:Nat):Int)=some [y]:=by
      match j,hj with
      |0,_=>exact⟨_,_,rfl,rfl,rfl,rfl⟩
      |1,_=>exact⟨_,_,rfl,rfl,rfl,rfl⟩
      |2,_=>exact⟨_,_,rfl,rfl,rfl,rfl⟩
      |3,_=>exact⟨_,_,rfl,rfl,rfl,rfl⟩
      |4,_=>exact⟨_,_,rfl,rfl,rfl,rfl⟩
      |5,_=>exact⟨_,_,rfl,rfl,rfl,rfl⟩
      |6,_=>exact⟨_,_,rfl,rfl,rfl,rfl⟩
      |7,_=>exact⟨_,_,rfl,rfl,rfl,rfl⟩
    rw[e1,Option.bind_some,e2,e3,e4,Option.bind_some]
    by_cases h:x.toNat=c.toNat
    · have:(Am x==Am c)=true:=by simp[Am,h]
      simp[this,h]
    · have:(Am x==Am c)=false:=by simp only[Am,beq_eq_false_iff_ne,ne_eq];omega
      simp[this,h]
theorem AEU (c:UInt8):OU c.toNat 8 0=Kb c.toNat:=FV (f:=fun n=>OU n 8 0) (g:=Kb) (by kernel_rfl) c
theorem ABL{hi lo:Nat} (h1:55296≤hi∧hi≤56319) (h2:56320≤lo∧lo≤57343):DI ((Lu hi lo:Nat):Int)=true:=by
  have h:65536≤Lu hi lo∧Lu hi lo≤1114111:=by unfold Lu;omega
  generalize Lu hi lo=n at h
  simp only[DI,Bool.and_eq_true,Bool.or_eq_true,decide_eq_true_eq];omega
theorem ALb{hi lo:Nat} (h1:55296≤hi∧hi≤56319) (h2:56320≤lo∧lo≤57343):wr .i64 (wr .i64 (wr .i64 (65536+wr .i64 (wr .i64 ((hi:Int)-55296) * 1024))+(lo:Int))-56320)=((Lu hi lo:Nat):Int):=by
  rw[Ak (n:=(hi:Int)-55296) (by omega),Ak (n:=((hi:Int)-55296) * 1024) (by omega),Ak (n:=65536+((hi:Int)-55296) * 1024) (by omega),Ak (n:=65536+((hi:Int)-55296) * 1024+(lo:Int)) (by omega),Ak (by omega)]
  unfold Lu;omega
theorem ZT{l t:List UInt8}{i:Nat} (ht:l.drop i=t) (hi:i≤l.length) (hb:l.length≤2^50) (hN:9≤N) (k2:Unit→Option (List UInt8×Int×Int)):
    (if decide (((i+1:Nat):Int)<(l.length:Int))=true then DX N l (i:Int) k2 N 0 else k2 ())=match t with
      |_::c::_=>(match Kb c.toNat with|some b=>some ([b],((i+2:Nat):Int),0)|none=>k2 ())
      |_=>k2 ():=by
  have hl:=DC ht hi
  match t,ht,hl with
  | [],ht,hl=>
    simp only[List.length_nil]at hl
    have: ¬((i+1:Nat):Int)<(l.length:Int):=by omega
    simp only[this,decide_false,Bool.false_eq_true,if_false]
  | [_],ht,hl=>
    simp only[List.length_cons,List.length_nil]at hl
    have: ¬((i+1:Nat):Int)<(l.length:Int):=by omega
    simp only[this,decide_false,Bool.false_eq_true,if_false]
  | _::c::r,ht,hl=>
    simp only[List.length_cons]at hl
    have:((i+1:Nat):Int)<(l.length:Int):=by omega
    simp only[this,decide_true,if_true]
    rw[Rz (c:=c) (KX ht rfl) (by omega) k2 8 N 0 (by omega) (by omega),AEU]
def MX (t:List UInt8):List UInt8×Nat×Int:=
  match t with
  |_::c::_=>(match Kb c.toNat with|some b=>([b],2,0)|none=>([],0,130))
  |_=>([],0,130)
theorem MV{t:List UInt8} (h:HZ t=none):Ih t=MX t:=by
  unfold Ih MX;rw[h]
theorem MQ{t:List UInt8}{hi:Nat} (h:HZ t=some hi):Ih t=((
    if 55296≤hi∧hi≤56319 then
      match HZ (t.drop 6)with
      |some lo=>if 56320≤lo∧lo≤57343 then(KU (Lu hi lo),12,0)else([],0,7)
      |none=>([],0,7)
    else if 56320≤hi∧hi≤57343 then([],0,7)else(KU hi,6,0)):List UInt8×Nat×Int):=by
  unfold Ih;rw[h]
theorem UC{n:Nat} (h:DI (n:Int)=true):encR (n:Int)=(KU n,0):=by unfold encR;rw[if_pos h];rfl
theorem AI9:Kb (117:UInt8).toNat=none:=by rw[show(117:UInt8).toNat=117 from rfl];rfl
theorem AIC{l r:List UInt8}{i:Nat} (ht:l.drop i=92::117::r) (hi:i≤l.length) (hb:l.length≤2^50) (hN:9≤N) (k2:Unit→Option (List UInt8×Int×Int)):
    (if decide (((i+1:Nat):Int)<(l.length:Int))=true then DX N l (i:Int) k2 N 0 else k2 ())=k2 ():=by
  rw[ZT ht hi hb hN k2]
  show(match Kb (117:UInt8).toNat with|some b=>some ([b],((i+2:Nat):Int),(0:Int))|none=>k2 ())=k2 ()
  rw[AI9]
theorem ABa{l t:List UInt8}{i:Nat} (ht:l.drop i=t) (hi:i≤l.length) (hb:l.length≤2^50) (hN:9≤N):
    IQ N l (i:Int)=some (Z5 i (Ih t)):=by
  have hl:=DC ht hi
  unfold IQ
  have w1:wr .i64 ((i:Int)+1)=((i+1:Nat):Int):=by rw[Ak (by omega)];simp
  have w6:wr .i64 ((i:Int)+6)=((i+6:Nat):Int):=by rw[Ak (by omega)];simp
  have w12:wr .i64 ((i:Int)+12)=((i+12:Nat):Int):=by rw[Ak (by omega)];simp
  simp only[AR,w1,w6,w12]
  cases hu:HZ t with
  | none=>
    refine(ZT ht hi hb hN _).trans ?_
    simp only[Nk ht hi hb,hu]
    rw[MV hu]
    simp only[Option.bind_some,Bool.false_eq_true,if_false]
    match t with
    |[]=>rfl
    |[_]=>rfl
    | _::c::r=>
      simp only[MX]
      cases Kb c.toNat<;>rfl
  | some hi'=>
    obtain⟨h1,h2,r,rfl⟩:=L8 hu
    refine(AIC ht hi hb hN _).trans ?_
    rw[MQ hu]
    rw[Rs hu ht hi hb,Option.bind_some]
    rw[if_pos rfl]
    by_cases c1:55296≤hi'∧hi'≤56319
    · have d1: ¬(hi':Int)<55296:=by omega
      have d2: ¬(hi':Int)>57343:=by omega
      have d3: ¬(hi':Int)>56319:=by omega
      simp only[c1,d1,d2,d3,and_self,if_true,decide_false,Bool.false_eq_true,if_false]
      have ht6:l.drop (i+6)=(92::117::r).drop 6:=by rw[←List.drop_drop,ht]
      cases hu2:HZ ((92::117::r).drop 6)with
      |none=>rw[AAW hu2 ht6 (by omega) hb,Option.bind_some,if_neg (by decide)];simp only[OQ]
      | some lo=>
        rw[Rs hu2 ht6 (by omega) hb,Option.bind_some,if_pos rfl]
        simp only[]
        by_cases c2:56320≤lo∧lo≤57343
        · have e1: ¬(lo:Int)<56320:=by omega
          have e2: ¬(lo:Int)>57343:=by omega
          have key:=NN (N:=N) ((Lu hi' lo:Nat):Int)
          rw[UC (ABL c1 c2)]at key
          rw[if_pos c2,Px]
          simp only[e1,e2,decide_false,Bool.false_eq_true,if_false]
          rw[ALb c1 c2,key,Option.bind_some]
        · by_cases c3:(lo:Int)<56320
          · simp only[c3,decide_true,if_true,c2,if_false,OQ]
          · have e2:(lo:Int)>57343:=by omega
            simp only[c3,e2,decide_true,decide_false,Bool.false_eq_true,if_false,if_true,c2,OQ]
    · by_cases c2:56320≤hi'∧hi'≤57343
      · have d1: ¬(hi':Int)<55296:=by omega
        have d2: ¬(hi':Int)>57343:=by omega
        have d3:(hi':Int)>56319:=by omega
        simp only[c1,c2,d1,d2,d3,and_self,if_true,decide_false,decide_true,Bool.false_eq_true,if_false]
        rw[Nk (t:=(92::117::r).drop 6) (by rw[←List.drop_drop,ht]) (by omega) hb]
        simp only[Option.bind_some,Px,OQ,QL]
      · have hp:DI (hi':Int)=true:=by
          simp only[DI,Bool.and_eq_true,Bool.or_eq_true,decide_eq_true_eq];omega
        rw[if_neg c1,if_neg c2]
        by_cases c3:(hi':Int)<55296
        · simp only[c3,decide_true,if_true]
          rw[NN,UC hp];simp only[Option.bind_some,Px,OQ,QL]
        · have d2:(hi':Int)>57343:=by omega
          simp only[c3,d2,decide_true,decide_false,Bool.false_eq_true,if_false,if_true]
          rw[NN,UC hp];simp only[Option.bind_some,Px,OQ,QL]
end
end Go.VM
namespace Go.VM
section
variable{N:Nat}
theorem JI {t:List UInt8}{r n:Nat} (h:GY t=some (r,n)):1≤n∧n≤t.length∧n≤4:=by
  match t,h with
  |[],h=>cases h
  | a :: t, h=>
    simp only[GY]at h
    split at h
    · simp only[Option.some.injEq,Prod.mk.injEq]at h;obtain⟨_,rfl⟩:=h;simp
    · split at h
      · match t,h with
        |[],h=>cases h
        | b::t,h=>
          simp only at h
          split at h
          · simp only[Option.some.injEq,Prod.mk.injEq]at h;obtain⟨_,rfl⟩:=h;simp
          · cases h
      · split at h
        · match t,h with
          |[],h=>cases h
          |[_],h=>cases h
          | b::c::t,h=>
            simp only at h
            split at h
            · simp only[Option.some.injEq,Prod.mk.injEq]at h;obtain⟨_,rfl⟩:=h;simp
            · cases h
        · split at h
          · match t,h with
            |[],h=>cases h
            |[_],h=>cases h
            |[_,_],h=>cases h
            | b::c::d::t,h=>
              simp only at h
              split at h
              · simp only[Option.some.injEq,Prod.mk.injEq]at h;obtain⟨_,rfl⟩:=h;simp
              · cases h
          · cases h
theorem XI (r:Nat):1≤(KU r).length∧(KU r).length≤4:=by
  unfold KU
  split
  · simp
  · split
    · simp
    · split<;>simp
theorem RB{t:List UInt8} (h:(Ih t).2.2=0):2≤(Ih t).2.1∧(Ih t).2.1≤t.length∧(Ih t).1.length≤4∧(Ih t).1.length≤(Ih t).2.1:=by
  cases hu:HZ t with
  | none=>
    rw[MV hu]at h⊢
    match t,h with
    |[],h=>cases h
    |[_],h=>cases h
    | _::c::r,h=>
      simp only[MX]at h⊢
      cases hs:Kb c.toNat with
      |none=>rw[hs]at h;cases h
      |some b=>simp
  | some hi=>
    obtain⟨h1,h2,_⟩:=L8 hu
    rw[MQ hu]at h⊢
    by_cases c1:55296≤hi∧hi≤56319
    · simp only[c1,and_self,if_true]at h⊢
      cases hu2:HZ (t.drop 6)with
      |none=>rw[hu2]at h;cases h
      | some lo=>
        obtain⟨_,h3,_⟩:=L8 hu2
        rw[hu2]at h
        simp only at h⊢
        by_cases c2:56320≤lo∧lo≤57343
        · simp only[c2,and_self,if_true]at h⊢
          have:=XI (Lu hi lo)
          rw[List.length_drop]at h3
          exact⟨by omega,by omega,by omega,by omega⟩
        · rw[if_neg c2]at h;cases h
    · rw[if_neg c1]at h⊢
      by_cases c2:56320≤hi∧hi≤57343
      · rw[if_pos c2]at h;cases h
      · rw[if_neg c2]
        have:=XI hi
        exact⟨by simp,by simpa using h2,by simpa using this.2,by simp only[];omega⟩
def Dx:Nat→List UInt8→Nat→List UInt8→List UInt8×Nat×Int
  |0,_,_,_=>([],0,130)
  |_+1,[],_,_=>([],0,130)
  | k+1,c::t,i,out=>
    if c.toNat=34 then(out,i+1,0)
    else if c.toNat=92 then
      if(Ih (c::t)).2.2=0 then Dx k ((c::t).drop (Ih (c::t)).2.1) (i+(Ih (c::t)).2.1) (out++(Ih (c::t)).1)
      else([],0,(Ih (c::t)).2.2)
    else if c.toNat<32 then([],0,130)
    else
      match GY (c::t)with
      |some (_,n)=>Dx k ((c::t).drop n) (i+n) (out++(c::t).take n)
      |none=>([],0,7)
def outT (r:List UInt8×Nat×Int):List UInt8×Int×Int:=if r.2.2=0 then(r.1,(r.2.1:Int),0)else([],0,r.2.2)
theorem RI: ∀(k:Nat) (t:List UInt8) (i:Nat) (out:List UInt8),(Dx k t i out).2.2=0→i<(Dx k t i out).2.1∧(Dx k t i out).2.1≤i+t.length∧(Dx k t i out).1.length≤out.length+t.length
  |0,t,i,out,h=>by rw[Dx]at h;cases h
  |k+1,[],i,out,h=>by rw[Dx]at h;cases h
  | k+1,c::t,i,out,h=>by
    rw[Dx]at h⊢
    split at h
    · rename_i c1
      simp only[c1,if_true,List.length_cons];omega
    · rename_i c1
      split at h
      · rename_i c2
        split at h
        · rename_i c3
          have:=RI k _ _ _ h
          obtain⟨e1,e2,e3,e4⟩:=RB c3
          rw[if_neg c1,if_pos c2,if_pos c3]
          simp only[List.length_drop,List.length_append]at this
          omega
        · rename_i c3;exact absurd h c3
      · rename_i c2
        split at h
        · cases h
        · rename_i c3
          cases hd:GY (c::t)with
          |none=>rw[hd]at h;cases h
          | some p=>
            obtain⟨r,n⟩:=p
            rw[hd]at h
            rw[if_neg c1,if_neg c2,if_neg c3]
            have:=RI k _ _ _ h
            obtain⟨e1,e2,e3⟩:=JI hd
            simp only[List.length_drop,List.length_append,List.length_take]at this⊢
            omega
theorem Qq{n:Nat}{k:Nat}:((n:Int)==(k:Int))=decide (n=k):=by
  by_cases h:n=k
  · simp[h]
  · have: ¬(n:Int)=(k:Int):=by omega
    simp[h];omega
theorem AMG (c:UInt8):(Am c==34)=decide (c.toNat=34):=Qq (k:=34)
theorem AM3 (c:UInt8):(Am c==92)=decide (c.toNat=92):=Qq (k:=92)
theorem AM1 (c:UInt8):decide (Am c<32)=decide (c.toNat<32):=by
  have:=c.toNat_lt
  simp only[Am];congr 1;simp only[eq_iff_iff];omega
theorem RZ{i r n:Nat}:Ha i (some (r,n))=((r:Int),((i+n:Nat):Int),0):=rfl
theorem head_drop{l t:List UInt8}{c:UInt8}{i:Nat} (ht:l.drop i=c::t):idx l (i:Int)=some c:=by
  have:=KX (j:=0) ht rfl
  simpa using this
section
variable{l:List UInt8}
theorem NF (hb:l.length≤2^50) (hN:9≤N) (k2:Unit→Option (List UInt8×Int×Int)) (hk:k2 ()=some ([],0,130)): ∀(k:Nat) (t:List UInt8) (i:Nat) (out:List UInt8),l.drop i=t→i≤l.length→t.length<k→out.length≤i→
    EO N l k2 k out (i:Int)=some (outT (Dx k t i out))
  |0,t,i,out,ht,hi,h,ho=>by omega
  | k+1,[],i,out,ht,hi,h,ho=>by
    have hl:=DC ht hi
    simp only[List.length_nil]at hl
    have c: ¬(i:Int)<(l.length:Int):=by omega
    rw[EO,Dx]
    simp only[c,decide_false,Bool.false_eq_true,if_false,hk];rfl
  | k+1,c::t,i,out,ht,hi,h,ho=>by
    have hl:=DC ht hi
    simp only[List.length_cons]at hl h
    have c0:(i:Int)<(l.length:Int):=by omega
    have w1:wr .i64 ((i:Int)+1)=((i+1:Nat):Int):=by rw[Ak (by omega)];simp
    rw[EO,Dx]
    rw[if_pos (decide_eq_true c0),head_drop ht,Option.bind_some,AMG,AM3,AM1,w1]
    by_cases c1:c.toNat=34
    · rw[if_pos (decide_eq_true c1),if_pos c1];rfl
    · rw [if_neg (by simpa using c1),if_neg c1]
      by_cases c2:c.toNat=92
      · rw[if_pos (decide_eq_true c2),if_pos c2,ABa ht hi hb hN,Option.bind_some]
        by_cases c3:(Ih (c::t)).2.2=0
        · obtain⟨e1,e2,e3,e4⟩:=RB c3
          have ho2:Z5 i (Ih (c::t))=((Ih (c::t)).1,((i+(Ih (c::t)).2.1:Nat):Int),0):=by unfold Z5;rw[if_pos c3]
          rw[ho2,if_neg (by simp),AZ (by unfold Bf;simp only[];omega),if_pos c3]
          simp only[List.length_cons]at e2
          exact NF hb hN k2 hk k _ _ _ (by rw[←List.drop_drop,ht]) (by omega) (by simp only[List.length_drop,List.length_cons];omega) (by simp only[List.length_append];omega)
        · have ho2:Z5 i (Ih (c::t))=([],0,(Ih (c::t)).2.2):=by unfold Z5;rw[if_neg c3]
          rw[ho2,if_pos (by simpa using c3),if_neg c3]
          unfold outT;rw[if_neg c3]
      · rw [if_neg (by simpa using c2),if_neg c2]
        by_cases c3:c.toNat<32
        · rw[if_pos (decide_eq_true c3),if_pos c3];rfl
        · rw[if_neg (by simpa using c3),if_neg c3,AGK (by omega) (by omega) (by omega),Option.bind_some,ht]
          cases hd:GY (c::t)with
          |none=>rfl
          | some p=>
            obtain⟨r,n⟩:=p
            obtain⟨e1,e2,e3⟩:=JI hd
            simp only[List.length_cons]at e2
            rw[RZ,if_neg (by simp),FE l i (i+n) (by omega) (by omega),Option.bind_some,Nat.add_sub_cancel_left,ht]
            rw[AZ (by unfold Bf;rw[List.length_take,List.length_cons];omega)]
            exact NF hb hN k2 hk k _ _ _ (by rw[←List.drop_drop,ht]) (by omega) (by simp only[List.length_drop,List.length_cons];omega) (by rw[List.length_append,List.length_take];omega)
theorem AJx (hb:l.length≤2^50) (hN:l.length+9≤N){i:Nat} (hi:i<l.length):Jm N l (i:Int)=some (outT (Dx N (l.drop (i+1)) (i+1) [])):=by
  unfold Jm
  rw[AR,Ak (by omega)]
  exact NF hb (by omega) _ rfl N _ (i+1) [] rfl (by omega) (by rw[List.length_drop];omega) (by simp)
end
end
end Go.VM
namespace Go.VM
section
variable{N:Nat}
theorem NG{α:Type} (p:α→Bool) (t:List α):t.take (t.takeWhile p).length=t.takeWhile p:=
  (List.prefix_iff_eq_take.1 (List.takeWhile_prefix p)).symm
theorem Kc{α:Type} (p:α→Bool) (t:List α):(t.takeWhile p).length≤t.length:=(List.takeWhile_sublist p).length_le
def Cu (c:UInt8):Bool:=decide (48≤c.toNat)&&decide (c.toNat≤57)
def AFm (n:Nat):Bool:=(decide (65≤n)&&decide (n≤90))||(decide (97≤n)&&decide (n≤122))
def Eb (c:UInt8):Bool:=AFm c.toNat
def wsN (n:Nat):Bool:=decide (n=32)||decide (n=9)||decide (n=10)||decide (n=13)
def wsB (c:UInt8):Bool:=wsN c.toNat
theorem ACE (c:UInt8):Fq N (Am c)=some (Cu c):=
  FV (f:=fun n=>Fq N (n:Int)) (g:=fun n=>some (decide (48≤n)&&decide (n≤57))) (by kernel_rfl) c
theorem VG (c:UInt8):EQ N (Am c)=some (Cu c):=
  FV (f:=fun n=>EQ N (n:Int)) (g:=fun n=>some (decide (48≤n)&&decide (n≤57))) (by kernel_rfl) c
theorem ACx (c:UInt8):Hm N (Am c)=some (Eb c):=
  FV (f:=fun n=>Hm N (n:Int)) (g:=fun n=>some (AFm n)) (by kernel_rfl) c
theorem Xo (c:UInt8) (k2:Unit→Option Bool) (h:k2 ()=some false): ∀l:List UInt8,Eo N (Am c) k2 l=some (l.contains c)
  |[]=>by rw[Eo];simpa using h
  | x::l=>by
    rw[Eo,Xo c k2 h l,List.contains_cons]
    by_cases e:x=c
    · subst e;simp
    · have e1: ¬c=x:=fun h=>e h.symm
      have:(Am x==Am c)=false:=by
        have: ¬x.toNat=c.toNat:=fun h=>e (UInt8.toNat_inj.1 h)
        simp only[Am,beq_eq_false_iff_ne,ne_eq];omega
      simp[this,e1]
theorem Oa (c:UInt8) (l:List UInt8) (h:l.length≤1000):Gr N (Am c) l=some (l.contains c):=by
  unfold Gr
  rw[AR,AA8 (by omega)]
  exact Xo c _ rfl l
theorem AKg (c:UInt8):JK N (Am c)=some (wsB c):=by
  unfold JK
  rw[Oa _ _ (by decide),Option.bind_some]
  have:=FV (f:=fun n=>some (([32,9,10,13]:List UInt8).contains (UInt8.ofNat n))) (g:=fun n=>some (wsN n)) (by kernel_rfl) c
  simp only[UInt8.ofNat_toNat]at this
  exact this
theorem index_ge: ∀(l:List UInt8) (c:UInt8),decide (Go.Lib.indexByte l c≥0)=l.contains c
  |[],c=>rfl
  | x::l,c=>by
    have ih:=index_ge l c
    have h:=Go.Lib.indexByte_ge l c
    rw[Go.Lib.indexByte,List.contains_cons]
    by_cases e:x=c
    · subst e;simp
    · have e1:(c==x)=false:=by simpa using fun h:c=x=>e h.symm
      have e2:(x==c)=false:=by simpa using e
      rw[e1,e2,Bool.false_or,←ih]
      simp only[Bool.false_eq_true,if_false]
      by_cases k:Go.Lib.indexByte l c= -1
      · simp[k]
      · have k':(Go.Lib.indexByte l c== -1)=false:=by simpa using k
        rw[k'];simp only[Bool.false_eq_true,if_false]
        congr 1;simp only[eq_iff_iff];omega
theorem TP (l:List UInt8) (c:UInt8):strings_IndexByte N l (Am c)=some (Go.Lib.indexByte l c):=by
  unfold strings_IndexByte Bz;rw[Kl];rfl
section
variable{l:List UInt8}
theorem ZL (hb:l.length≤2^50) (s:Int) (k2:Int→Option (List UInt8×TokenReader)): ∀(t:List UInt8) (i:Nat),l.drop i=t→i≤l.length→BA N ⟨l,s⟩ k2 t.length (i:Int)=k2 ((i+(t.takeWhile Cu).length:Nat):Int)
  |[],i,ht,hi=>by rw[List.length_nil,BA];rfl
  | c::t,i,ht,hi=>by
    have hl:=DC ht hi
    simp only[List.length_cons]at hl
    rw[List.length_cons,BA]
    rw[head_drop ht,Option.bind_some,ACE,Option.bind_some,List.takeWhile_cons]
    cases Cu c
    · simp
    · rw[if_pos rfl,if_pos rfl,show(i:Int)+1=((i+1:Nat):Int) by simp,ZL hb s k2 t (i+1) (by rw[←List.drop_drop,ht];rfl) (by omega)]
      rw[List.length_cons];congr 2;omega
variable{t:List UInt8}{i:Nat}
theorem TB (p:UInt8→Bool) (ht:l.drop i=t) (hi:i≤l.length):sub l (i:Int) ((i+(t.takeWhile p).length:Nat):Int)=some (t.takeWhile p):=by
  have hl:=DC ht hi
  have:=Kc p t
  rw[FE l i _ (by omega) (by omega),Nat.add_sub_cancel_left,ht,NG]
theorem AGh (ht:l.drop i=t) (hi:i≤l.length) (hb:l.length≤2^50):CB N ⟨l,(i:Int)⟩=some (t.takeWhile Cu,⟨l,((i+(t.takeWhile Cu).length:Nat):Int)⟩):=by
  have hl:=DC ht hi
  unfold CB
  rw[AR,AZ (by simp only[];omega)]
  rw[show((l.length:Int)-(i:Int)).toNat=t.length by omega,ZL hb _ _ t i ht hi]
  simp only[]
  rw[TB Cu ht hi,Option.bind_some]
def CV (set t:List UInt8):Bool:=match t with|c::_=>set.contains c|[]=>false
theorem L6 (set:List UInt8) (ht:l.drop i=t) (hi:i≤l.length) (hb:l.length≤2^50):Bv N ⟨l,(i:Int)⟩ set=some (CV set t,⟨l,((i+(if CV set t=true then 1 else 0):Nat):Int)⟩):=by
  have hl:=DC ht hi
  unfold Bv
  rw[AR]
  match t,ht,hl with
  | [],ht,hl=>
    simp only[List.length_nil]at hl
    have c: ¬(i:Int)<(l.length:Int):=by omega
    rw[if_neg (by simpa using c)];rfl
  | c::t,ht,hl=>
    simp only[List.length_cons]at hl
    have c0:(i:Int)<(l.length:Int):=by omega
    rw[if_pos (decide_eq_true c0)]
    simp only[]
    rw[head_drop ht,Option.bind_some,TP,Option.bind_some,index_ge,Ak (by omega)]
    have key: ∀b:Bool,(if b=true then some (true,(⟨l,(i:Int)+1⟩:TokenReader))else some (false,(⟨l,(i:Int)⟩:TokenReader)))=some (b,(⟨l,((i+(if b=true then 1 else 0):Nat):Int)⟩:TokenReader)):=by
      intro b;cases b<;>simp
    exact key _
def De (t:List UInt8):Nat:=(t.takeWhile Cu).length
theorem Kz (t:List UInt8):De t≤t.length:=Kc _ _
theorem Sz (t:List UInt8):(t.takeWhile Cu==[])=decide (De t=0):=by
  unfold De
  cases t.takeWhile Cu<;>simp
def Ac (t:List UInt8):Nat:=if CV [45] t=true then 1 else 0
def CY (t:List UInt8):Nat:=if CV [48] t=true then 1 else De t
def DK (t:List UInt8):Nat:=if CV [46] t=true∧0<De (t.drop 1)then 1+De (t.drop 1)else 0
def Fg (t:List UInt8):Nat:=if CV [43,45] (t.drop 1)=true then 1 else 0
def Gp (t:List UInt8):Nat:=if CV [101,69] t=true∧0<De (t.drop (1+Fg t))then 1+Fg t+De (t.drop (1+Fg t))else 0
def Cz (t:List UInt8):Nat:=
  if CY (t.drop (Ac t))=0 then 0
  else Ac t+CY (t.drop (Ac t))+DK (t.drop (Ac t+CY (t.drop (Ac t))))+
    Gp (t.drop (Ac t+CY (t.drop (Ac t))+DK (t.drop (Ac t+CY (t.drop (Ac t))))))
theorem Gd{set t:List UInt8} (h:CV set t=true):0<t.length:=by
  cases t with
  |nil=>cases h
  |cons=>simp
theorem Nf (t:List UInt8):Ac t≤t.length:=by
  unfold Ac;split
  · rename_i h;exact Gd h
  · omega
theorem NU (t:List UInt8):CY t≤t.length:=by
  unfold CY;split
  · rename_i h;exact Gd h
  · exact Kz t
theorem NT (t:List UInt8):DK t≤t.length:=by
  unfold DK;split
  · rename_i h
    have:=Gd h.1
    have:=Kz (t.drop 1)
    rw[List.length_drop]at this;omega
  · omega
theorem UV (t:List UInt8):Gp t≤t.length:=by
  unfold Gp;split
  · rename_i h
    have h1:=Gd h.1
    have:=Kz (t.drop (1+Fg t))
    rw[List.length_drop]at this
    have h2:=h.2
    omega
  · omega
theorem P6 (t:List UInt8):Cz t≤t.length:=by
  unfold Cz
  split
  · omega
  · have h1:=Nf t
    have h2:=NU (t.drop (Ac t))
    have h3:=NT (t.drop (Ac t+CY (t.drop (Ac t))))
    have h4:=UV (t.drop (Ac t+CY (t.drop (Ac t))+DK (t.drop (Ac t+CY (t.drop (Ac t))))))
    simp only[List.length_drop]at h2 h3 h4
    omega
theorem QQ{f:Int} (ht:l.drop i=t) (hi:i≤l.length) (hb:l.length≤2^50):Ck N ⟨l,(i:Int)⟩ f=some ⟨l,if 0<De t then((i+De t:Nat):Int)else f⟩:=by
  unfold Ck
  rw[AGh ht hi hb,Option.bind_some]
  simp only[Sz]
  by_cases h:De t=0
  · rw[if_pos (decide_eq_true h),if_neg (by omega)]
  · rw[if_neg (by simpa using h),if_pos (by omega)];rfl
theorem Kq{a:Nat} (ht:l.drop i=t) (n:Nat) (h:a=i+n):l.drop a=t.drop n:=by rw[h,←List.drop_drop,ht]
theorem Ro (ht:l.drop i=t) (hi:i≤l.length) (hb:l.length≤2^50):
    if Cz t=0 then∃q,Cm N ⟨l,(i:Int)⟩=some ([],false,q)else Cm N ⟨l,(i:Int)⟩=some (t.take (Cz t),true,⟨l,((i+Cz t:Nat):Int)⟩):=by
  have hl:=DC ht hi
  have h1:=Nf t
  have h2:=NU (t.drop (Ac t))
  have h3:=NT (t.drop (Ac t+CY (t.drop (Ac t))))
  have h4:=UV (t.drop (Ac t+CY (t.drop (Ac t))+DK (t.drop (Ac t+CY (t.drop (Ac t))))))
  simp only[List.length_drop]at h2 h3 h4
  unfold Cm
  rw[L6 [45] ht hi hb,Option.bind_some]
  change if Cz t=0 then∃q,Ab _ _=some ([],false,q)else Ab _ _=_
  rw[show(if CV [45] t=true then 1 else 0)=Ac t from rfl]
  have hta:=Kq ht (Ac t) rfl
  rw[L6 [48] hta (by omega) hb]
  simp only[Option.bind_some]
  have rest: ∀a:Nat,a=i+(Ac t+CY (t.drop (Ac t)))→CY (t.drop (Ac t))≠0→
      (Ab (fun j11:TokenReader=>Ab (fun j19:TokenReader=>Option.bind (sub j19.s (i:Int) j19.at_) fun x29=>some (x29,true,j19)) fun k20=>
        Option.bind (Bv N j11 ([101,69]:List UInt8)) fun y23=>if y23.1=true then Option.bind (Bv N y23.2 ([43,45]:List UInt8)) fun y25=>Option.bind (Ck N y25.2 j11.at_) fun y27=>k20 y27 else k20 y23.2) fun k12=>
      Option.bind (Bv N ⟨l,(a:Int)⟩ ([46]:List UInt8)) fun y15=>if y15.1=true then Option.bind (Ck N y15.2 (a:Int)) fun y17=>k12 y17 else k12 y15.2)=some (t.take (Cz t),true,(⟨l,((i+Cz t:Nat):Int)⟩:TokenReader)):=by
    intro a ha hne
    have htb:=Kq ht (Ac t+CY (t.drop (Ac t))) ha
    have hnum:Cz t=Ac t+CY (t.drop (Ac t))+DK (t.drop (Ac t+CY (t.drop (Ac t))))+Gp (t.drop (Ac t+CY (t.drop (Ac t))+DK (t.drop (Ac t+CY (t.drop (Ac t)))))):=by
      unfold Cz;rw[if_neg hne]
    have last: ∀b:Nat,b=i+(Ac t+CY (t.drop (Ac t))+DK (t.drop (Ac t+CY (t.drop (Ac t)))))→
        (Ab (fun j19:TokenReader=>Option.bind (sub j19.s (i:Int) j19.at_) fun x29=>some (x29,true,j19)) fun k20=>
          Option.bind (Bv N ⟨l,(b:Int)⟩ ([101,69]:List UInt8)) fun y23=>if y23.1=true then Option.bind (Bv N y23.2 ([43,45]:List UInt8)) fun y25=>Option.bind (Ck N y25.2 (b:Int)) fun y27=>k20 y27 else k20 y23.2)=some (t.take (Cz t),true,(⟨l,((i+Cz t:Nat):Int)⟩:TokenReader)):=by
      intro b hb'
      have htc:=Kq ht _ hb'
      have fin: ∀e:Nat,e=i+Cz t→(Option.bind (sub l (i:Int) (e:Int)) fun x29=>some (x29,true,(⟨l,(e:Int)⟩:TokenReader)))=some (t.take (Cz t),true,(⟨l,((i+Cz t:Nat):Int)⟩:TokenReader)):=by
        rintro e rfl
        have:=P6 t
        rw[FE l i _ (by omega) (by omega),Option.bind_some,Nat.add_sub_cancel_left,ht]
      rw[AR,L6 [101,69] htc (by omega) hb,Option.bind_some]
      generalize hc:t.drop (Ac t+CY (t.drop (Ac t))+DK (t.drop (Ac t+CY (t.drop (Ac t)))))=c at *
      by_cases he:CV [101,69] c=true
      · have hpos:=Gd he
        have hcl:c.length=t.length-(Ac t+CY (t.drop (Ac t))+DK (t.drop (Ac t+CY (t.drop (Ac t))))):=by rw[←hc,List.length_drop]
        simp only[he,if_true]
        rw[L6 [43,45] (Kq htc 1 rfl) (by omega) hb,Option.bind_some]
        rw[show(if CV [43,45] (c.drop 1)=true then 1 else 0)=Fg c from rfl]
        have hes:Fg c≤c.length-1:=by
          unfold Fg;split
          · rename_i h;have:=Gd h;rw[List.length_drop]at this;omega
          · omega
        rw[QQ (Kq htc (1+Fg c) (by omega)) (by omega) hb,Option.bind_some]
        by_cases hr:0<De (c.drop (1+Fg c))
        · rw[if_pos hr]
          refine fin _ ?_
          rw[hnum,show Gp c=1+Fg c+De (c.drop (1+Fg c)) by unfold Gp;rw[if_pos ⟨he,hr⟩]]
          omega
        · rw[if_neg hr]
          refine fin _ ?_
          rw[hnum,show Gp c=0 by unfold Gp;rw[if_neg (fun h=>hr h.2)]]
          omega
      · rw[Bool.not_eq_true]at he
        simp only[he,Bool.false_eq_true,if_false]
        refine fin _ ?_
        rw[hnum,show Gp c=0 by unfold Gp;rw[if_neg (by rw[he];simp)]]
        omega
    rw[AR,L6 [46] htb (by omega) hb,Option.bind_some]
    generalize hc:t.drop (Ac t+CY (t.drop (Ac t)))=c at *
    by_cases he:CV [46] c=true
    · have hpos:=Gd he
      have hcl:c.length=t.length-(Ac t+CY (t.drop (Ac t))):=by rw[←hc,List.length_drop]
      simp only[he,if_true]
      rw[QQ (Kq htb 1 rfl) (by omega) hb,Option.bind_some]
      by_cases hr:0<De (c.drop 1)
      · rw[if_pos hr]
        refine last _ ?_
        rw[show DK c=1+De (c.drop 1) by unfold DK;rw[if_pos ⟨he,hr⟩]]
        omega
      · rw[if_neg hr]
        refine last _ ?_
        rw[show DK c=0 by unfold DK;rw[if_neg (fun h=>hr h.2)]]
        omega
    · rw[Bool.not_eq_true]at he
      simp only[he,Bool.false_eq_true,if_false]
      refine last _ ?_
      rw[show DK c=0 by unfold DK;rw[if_neg (by rw[he];simp)]]
      omega
  have hnz:Cz t=0↔CY (t.drop (Ac t))=0:=by
    unfold Cz
    constructor
    · intro h;by_cases k:CY (t.drop (Ac t))=0
      · exact k
      · rw[if_neg k]at h;omega
    · intro h;rw[if_pos h]
  by_cases h0:CV [48] (t.drop (Ac t))=true
  · have hin:CY (t.drop (Ac t))=1:=by unfold CY;rw[if_pos h0]
    rw[if_neg (by rw[hnz,hin];decide)]
    simp only[h0,if_true]
    rw[AR]
    simp only[Bool.false_eq_true,if_false]
    exact rest _ (by rw[hin];omega) (by rw[hin];decide)
  · have hin:CY (t.drop (Ac t))=De (t.drop (Ac t)):=by unfold CY;rw[if_neg h0]
    rw[Bool.not_eq_true]at h0
    simp only[h0,Bool.false_eq_true,if_false,Nat.add_zero]
    rw[AGh hta (by omega) hb]
    simp only[Option.bind_some,AR,Sz]
    by_cases hr:De (t.drop (Ac t))=0
    · rw[if_pos (by rw[hnz,hin];exact hr)]
      simp only[hr,decide_true,if_true]
      exact⟨_,rfl⟩
    · rw[if_neg (by rw[hnz,hin];exact hr)]
      simp only[hr,decide_false,Bool.false_eq_true,if_false]
      have:=rest (i+Ac t+De (t.drop (Ac t))) (by rw[hin];omega) (by rw[hin];exact hr)
      simp only[AR]at this
      exact this
end
end
end Go.VM
namespace Go.VM
section
variable{N:Nat}
theorem CK{α β:Type}{K:α→Option β}{body:(α→Option β)→Option β}{a:α} (h: ∀k:α→Option β,body k=k a):Ab K body=K a:=h K
theorem TL (l:List UInt8) (k2:Int→Option Int) (hb:l.length≤2^50): ∀(t:List UInt8) (i k:Nat),l.drop i=t→i≤l.length→t.length<k→FX N l k2 k (i:Int)=k2 ((i+De t:Nat):Int)
  | [],i,k+1,ht,hi,_=>by
    have hl:=DC ht hi
    simp only[List.length_nil]at hl
    have c: ¬(i:Int)<(l.length:Int):=by omega
    rw[FX,AR,if_neg (by simpa using c)]
    dsimp only
    rw[if_neg (by decide)];rfl
  | c::t,i,k+1,ht,hi,hk=>by
    have hl:=DC ht hi
    simp only[List.length_cons]at hl hk
    have c0:(i:Int)<(l.length:Int):=by omega
    rw[FX,AR,if_pos (decide_eq_true c0),head_drop ht,Option.bind_some,VG,Option.bind_some]
    unfold De
    rw[List.takeWhile_cons]
    cases Cu c
    · simp
    · dsimp only
      rw[if_pos rfl,if_pos rfl,Ak (by omega),show(i:Int)+1=((i+1:Nat):Int) by simp,TL l k2 hb t (i+1) k (by rw[←List.drop_drop,ht];rfl) (by omega) (by omega)]
      rw[List.length_cons];unfold De;congr 2;omega
theorem AI4 (t:List UInt8) (hb:t.length≤2^50) (hN:t.length<N):IB N t=some ((De t:Nat):Int):=by
  unfold IB
  rw[AR]
  have:=TL (N:=N) t (fun j=>some j) hb t 0 N (by simp) (by omega) hN
  simpa using this
theorem Rm (t:List UInt8) (i:Nat):Hy N t (i:Int)=some (t.drop i):=by
  unfold Hy
  by_cases h:(i:Int)≥(t.length:Int)
  · rw[if_pos (decide_eq_true h),List.drop_of_length_le (by omega)]
  · rw[if_neg (by simpa using h),FE t i t.length (by omega) (by omega),Option.bind_some,List.take_of_length_le (by simp)]
theorem MU{β:Type} (t:List UInt8) (i:Nat) (k:Bool→Option β) (f:UInt8→Option β) (set:List UInt8) (hf: ∀c r,t.drop i=c::r→f c=k (set.contains c)):
    (if decide ((i:Int)<(t.length:Int))=true then Option.bind (idx t (i:Int)) f else k false)=k (CV set (t.drop i)):=by
  by_cases hi:i≤t.length
  · obtain⟨u,hu⟩: ∃u,t.drop i=u:=⟨_,rfl⟩
    have hl:=DC hu hi
    rw[hu]
    cases u with
    | nil=>
      simp only[List.length_nil]at hl
      have c: ¬(i:Int)<(t.length:Int):=by omega
      rw[if_neg (by simpa using c)];rfl
    | cons c r=>
      simp only[List.length_cons]at hl
      have c0:(i:Int)<(t.length:Int):=by omega
      rw[if_pos (decide_eq_true c0),head_drop hu,Option.bind_some,hf c r hu];rfl
  · have c: ¬(i:Int)<(t.length:Int):=by omega
    rw[if_neg (by simpa using c),List.drop_of_length_le (by omega)];rfl
theorem M9 (c:UInt8) (k:UInt8):([k]:List UInt8).contains c=decide (c.toNat=k.toNat):=by
  by_cases h:c=k
  · subst h;simp
  · have: ¬c.toNat=k.toNat:=fun e=>h (UInt8.toNat_inj.1 e)
    simp[h,this]
theorem AFA (c:UInt8):(Am c==45)=([45]:List UInt8).contains c:=by rw[M9];exact Qq (k:=45)
theorem ANC (c:UInt8):(Am c==46)=([46]:List UInt8).contains c:=by rw[M9];exact Qq (k:=46)
theorem AM2 (c:UInt8):(Am c==48)=([48]:List UInt8).contains c:=by rw[M9];exact Qq (k:=48)
theorem Xx{t:List UInt8}:CY t=0↔(t=[]∨ ∃c r,t=c::r∧Cu c=false):=by
  cases t with
  |nil=>exact⟨fun _=>.inl rfl,fun _=>rfl⟩
  | cons c r=>
    constructor
    · intro h
      refine .inr ⟨c,r,rfl,?_⟩
      unfold CY at h
      split at h
      · cases h
      · unfold De at h
        rw[List.takeWhile_cons]at h
        cases hd:Cu c
        · rfl
        · rw[hd]at h;simp at h
    · rintro(h|⟨c',r',h,hd⟩)
      · cases h
      · cases h
        have h48:CV [48] (c::r)=false:=by
          show([48]:List UInt8).contains c=false
          rw[M9]
          have: ¬c.toNat=48:=fun e=>by simp[Cu,e]at hd
          simpa using this
        unfold CY;rw[h48,if_neg (by simp)]
        unfold De;rw[List.takeWhile_cons,hd];rfl
theorem MC (t:List UInt8) (hb:t.length≤2^50) (hN:t.length<N):Gc N t=some ((Cz t:Nat):Int):=by
  have h1:=Nf t
  have h2:=NU (t.drop (Ac t))
  have h3:=NT (t.drop (Ac t+CY (t.drop (Ac t))))
  have h4:=UV (t.drop (Ac t+CY (t.drop (Ac t))+DK (t.drop (Ac t+CY (t.drop (Ac t))))))
  simp only[List.length_drop]at h2 h3 h4
  have run: ∀n:Nat,IB N (t.drop n)=some ((De (t.drop n):Nat):Int):=fun n=>AI4 _ (by rw[List.length_drop];omega) (by rw[List.length_drop];omega)
  have wn: ∀n:Nat,n≤2^51→wr .i64 (n:Int)=(n:Int):=fun n h=>Hw (by omega)
  have w1: ∀n:Nat,n≤2^51→wr .i64 ((n:Int)+1)=((n+1:Nat):Int):=fun n h=>by rw[Ak (by omega)];simp
  have hsub:sub t (Ac t:Int) (t.length:Int)=some (t.drop (Ac t)):=by
    rw[FE t (Ac t) t.length h1 (Nat.le_refl _),List.take_of_length_le (by simp)]
  have hs2:Ac t≤1:=by unfold Ac;split<;>omega
  unfold Gc
  refine(CK (a:=((Ac t:Nat):Int)) fun k2=>(CK (a:=CV [45] t) fun k6=>?_).trans ?_).trans ?_
  · have key:=MU t 0 k6 (fun x9=>k6 (Am x9==45)) [45] (fun c r _=>by rw[AFA])
    simpa using key
  · unfold Ac
    cases CV [45] t<;>rfl
  try dsimp only
  refine(CK (a:=decide (CY (t.drop (Ac t))=0)) fun k11=>?_).trans ?_
  · obtain⟨u,hu⟩: ∃u,t.drop (Ac t)=u:=⟨_,rfl⟩
    have hl:=DC hu h1
    rw[hu]
    cases u with
    | nil=>
      simp only[List.length_nil]at hl
      rw[if_pos (by simp;omega)];rfl
    | cons c r=>
      simp only[List.length_cons]at hl
      rw[if_neg (by simp;omega),head_drop hu,Option.bind_some,VG,Option.bind_some]
      congr 1
      cases hd:Cu c
      · rw[decide_eq_true (Xx.2 (.inr ⟨c,r,rfl,hd⟩))];rfl
      · have: ¬CY (c::r)=0:=fun h=>by
          rcases Xx.1 h with h|⟨c',r',h,hd'⟩
          · cases h
          · cases h;rw[hd]at hd';cases hd'
        rw[decide_eq_false this];rfl
  try dsimp only
  by_cases hz:CY (t.drop (Ac t))=0
  · rw[if_pos (decide_eq_true hz)]
    unfold Cz;rw[if_pos hz];rfl
  rw[if_neg (by simpa using hz)]
  have hnum:Cz t=Ac t+CY (t.drop (Ac t))+DK (t.drop (Ac t+CY (t.drop (Ac t))))+Gp (t.drop (Ac t+CY (t.drop (Ac t))+DK (t.drop (Ac t+CY (t.drop (Ac t)))))):=by
    unfold Cz;rw[if_neg hz]
  refine(CK (a:=((Ac t+CY (t.drop (Ac t)):Nat):Int)) fun k18=>?_).trans ?_
  · obtain⟨u,hu⟩: ∃u,t.drop (Ac t)=u:=⟨_,rfl⟩
    cases u with
    |nil=>rw[hu]at hz;exact absurd rfl hz
    | cons c r=>
      rw[head_drop hu,Option.bind_some,AM2,hsub,Option.bind_some,run]
      rw[hu]at h2⊢
      rw[show([48]:List UInt8).contains c=CV [48] (c::r)from rfl]
      unfold CY at h2⊢
      by_cases h0:CV [48] (c::r)=true
      · rw[if_pos h0]at h2
        rw[if_pos h0,if_pos h0,w1 _ (by omega)]
      · rw[if_neg h0]at h2
        rw[if_neg h0,if_neg h0,Option.bind_some,Ak (by omega)];congr 1
  try dsimp only
  rw[w1 _ (by omega),Rm]
  generalize hi':Ac t+CY (t.drop (Ac t))=i at *
  have hil:i≤t.length:=by omega
  refine(CK (a:=((i+DK (t.drop i):Nat):Int)) fun k26=>?_).trans ?_
  · rw[Option.bind_some,run,Option.bind_some]
    have hr:=Kz (t.drop (i+1))
    rw[List.length_drop]at hr
    refine(CK (a:=CV [46] (t.drop i)&&decide (0<De (t.drop (i+1)))) fun k34=>?_).trans ?_
    · refine(MU t i (fun b=>k34 (b&&decide (0<De (t.drop (i+1))))) _ [46] (fun c r _=>?_)).trans rfl
      rw[ANC]
      cases ([46]:List UInt8).contains c
      · rfl
      · rw[if_pos rfl];congr 1;rw[Bool.true_and];congr 1;simp only[eq_iff_iff];omega
    try dsimp only
    unfold DK
    rw[List.drop_drop]
    by_cases hc:CV [46] (t.drop i)=true∧0<De (t.drop (i+1))
    · rw[if_pos (by simpa using hc),if_pos hc,Ak (n:=1+_) (by omega),Ak (by omega)];congr 1
    · rw[if_neg (by simpa using hc),if_neg hc];rfl
  try dsimp only
  generalize hj:i+DK (t.drop i)=j at *
  have hjl:j≤t.length:=by omega
  rw[w1 _ (by omega)]
  refine(CK (a:=((j+Gp (t.drop j):Nat):Int)) fun k39=>?_).trans ?_
  · refine(CK (a:=CV [101,69] (t.drop j)) fun k43=>MU t j k43 _ [101,69] (fun c r _=>by rw[Oa _ _ (by decide),Option.bind_some])).trans ?_
    try dsimp only
    by_cases he:CV [101,69] (t.drop j)=true
    · rw [if_pos he]
      have hpos:=Gd he
      rw[List.length_drop]at hpos
      have hes:Fg (t.drop j)≤t.length-j-1:=by
        unfold Fg;split
        · rename_i h
          have:=Gd h
          simp only[List.length_drop]at this;omega
        · omega
      refine(CK (a:=((j+(1+Fg (t.drop j)):Nat):Int)) fun k50=>(CK (a:=CV [43,45] (t.drop (j+1))) fun k54=>MU t (j+1) k54 _ [43,45] (fun c r _=>by rw[Oa _ _ (by decide),Option.bind_some])).trans ?_).trans ?_
      · try dsimp only
        unfold Fg
        rw[List.drop_drop]
        by_cases h:CV [43,45] (t.drop (j+1))=true
        · rw[if_pos h,if_pos h,w1 _ (by omega)]
        · rw[if_neg h,if_neg h]
      try dsimp only
      rw[Rm,Option.bind_some,run,Option.bind_some]
      have hr:=Kz (t.drop (j+(1+Fg (t.drop j))))
      rw[List.length_drop]at hr
      have hex:Gp (t.drop j)=if 0<De (t.drop (j+(1+Fg (t.drop j))))then 1+Fg (t.drop j)+De (t.drop (j+(1+Fg (t.drop j))))else 0:=by
        unfold Gp
        rw[List.drop_drop]
        by_cases h:0<De (t.drop (j+(1+Fg (t.drop j))))
        · rw[if_pos ⟨he,h⟩,if_pos h]
        · rw[if_neg (fun k=>h k.2),if_neg h]
      rw[hex]
      by_cases h:0<De (t.drop (j+(1+Fg (t.drop j))))
      · rw[if_pos (by simp;omega),if_pos h,Ak (by omega)];congr 1;omega
      · rw[if_neg (by simp;omega),if_neg h];rfl
    · rw[if_neg he,show Gp (t.drop j)=0 by unfold Gp;rw[if_neg (fun k=>he k.1)]];rfl
  try dsimp only
  rw[hnum]
end
end Go.VM
namespace Go.VM
section
variable{N:Nat}
def Mx:List UInt8:=[123,125,91,93,58,44]
def isWord (w:List UInt8):Bool:=w==[116,114,117,101]||(w==[102,97,108,115,101]||w==[110,117,108,108])
def TF (e:Int):ApiToken×Int×Int:=(ApiToken.mk 0 [] 0,0,e)
def SS (N:Nat) (p:Nat) (t:List UInt8):ApiToken×Int×Int:=
  match t with
  |[]=>(ApiToken.mk 1 [] p,p,0)
  | c::r=>
    if Mx.contains c=true then(ApiToken.mk 2 [c] p,((p+1:Nat):Int),0)
    else if c.toNat=34 then
      if(Dx N r (p+1) []).2.2=0 then(ApiToken.mk 3 (Dx N r (p+1) []).1 p,((Dx N r (p+1) []).2.1:Int),0)else TF (Dx N r (p+1) []).2.2
    else if(([45]:List UInt8).contains c||Cu c)=true then
      if Cz (c::r)=0 then TF 130 else(ApiToken.mk 4 ((c::r).take (Cz (c::r))) p,((p+Cz (c::r):Nat):Int),0)
    else if isWord ((c::r).takeWhile Eb)=true then(ApiToken.mk 5 ((c::r).takeWhile Eb) p,((p+((c::r).takeWhile Eb).length:Nat):Int),0)
    else TF 130
theorem Ja (N p:Nat) (c:UInt8) (r:List UInt8):SS N p (c::r)=(
  if Mx.contains c=true then(ApiToken.mk 2 [c] p,((p+1:Nat):Int),0)
  else if c.toNat=34 then
    if(Dx N r (p+1) []).2.2=0 then(ApiToken.mk 3 (Dx N r (p+1) []).1 p,((Dx N r (p+1) []).2.1:Int),0)else TF (Dx N r (p+1) []).2.2
  else if(([45]:List UInt8).contains c||Cu c)=true then
    if Cz (c::r)=0 then TF 130 else(ApiToken.mk 4 ((c::r).take (Cz (c::r))) p,((p+Cz (c::r):Nat):Int),0)
  else if isWord ((c::r).takeWhile Eb)=true then(ApiToken.mk 5 ((c::r).takeWhile Eb) p,((p+((c::r).takeWhile Eb).length:Nat):Int),0)
  else TF 130):=rfl
def M4 (N:Nat) (l:List UInt8) (i:Nat):ApiToken×Int×Int:=
  SS N (i+((l.drop i).takeWhile wsB).length) (l.drop (i+((l.drop i).takeWhile wsB).length))
section
variable{l t:List UInt8}{i p:Nat}
theorem ADW (w:List UInt8) (k:Bool→Option (ApiToken×Int×Int)):(if(w==([116,114,117,101]:List UInt8))=true then k true else if(w==([102,97,108,115,101]:List UInt8))=true then k true else k (w==([110,117,108,108]:List UInt8)))=k (isWord w):=by
  unfold isWord
  cases w==([116,114,117,101]:List UInt8)<;>cases w==([102,97,108,115,101]:List UInt8)<;>rfl
theorem PR (hb:l.length≤2^50) (k6:Int→Option (ApiToken×Int×Int)): ∀(t:List UInt8) (i k:Nat),l.drop i=t→i≤l.length→t.length<k→Ep N l k6 k (i:Int)=k6 ((i+(t.takeWhile wsB).length:Nat):Int)
  | [],i,k+1,ht,hi,_=>by
    have hl:=DC ht hi
    simp only[List.length_nil]at hl
    have c: ¬(i:Int)<(l.length:Int):=by omega
    rw[Ep,AR,if_neg (by simpa using c)]
    try dsimp only
    rw[if_neg (by decide)];rfl
  | c::t,i,k+1,ht,hi,hk=>by
    have hl:=DC ht hi
    simp only[List.length_cons]at hl hk
    have c0:(i:Int)<(l.length:Int):=by omega
    rw[Ep,AR,if_pos (decide_eq_true c0),head_drop ht,Option.bind_some,AKg,Option.bind_some,List.takeWhile_cons]
    cases wsB c
    · simp
    · dsimp only
      rw[if_pos rfl,if_pos rfl,Ak (by omega),show(i:Int)+1=((i+1:Nat):Int) by simp,PR hb k6 t (i+1) k (by rw[←List.drop_drop,ht];rfl) (by omega) (by omega)]
      rw[List.length_cons];congr 2;omega
theorem Rh (hb:l.length≤2^50) (p:Nat) (k34:Int→Option (ApiToken×Int×Int)): ∀(t:List UInt8) (n k:Nat),l.drop (p+n)=t→p+n≤l.length→t.length<k→El N l (p:Int) k34 k (n:Int)=k34 ((n+(t.takeWhile Eb).length:Nat):Int)
  | [],n,k+1,ht,hi,_=>by
    have hl:=DC ht hi
    simp only[List.length_nil]at hl
    have c: ¬((p+n:Nat):Int)<(l.length:Int):=by omega
    rw[El,AR,Ak (n:=(p:Int)+(n:Int)) (by omega),show(p:Int)+(n:Int)=((p+n:Nat):Int) by simp,if_neg (by simpa using c)]
    try dsimp only
    rw[if_neg (by decide)];rfl
  | c::t,n,k+1,ht,hi,hk=>by
    have hl:=DC ht hi
    simp only[List.length_cons]at hl hk
    have c0:((p+n:Nat):Int)<(l.length:Int):=by omega
    rw[El,AR,Ak (n:=(p:Int)+(n:Int)) (by omega),show(p:Int)+(n:Int)=((p+n:Nat):Int) by simp,if_pos (decide_eq_true c0),head_drop ht,Option.bind_some,ACx,Option.bind_some,List.takeWhile_cons]
    cases Eb c
    · simp
    · dsimp only
      rw[if_pos rfl,if_pos rfl,Ak (by omega),show(n:Int)+1=((n+1:Nat):Int) by simp,Rh hb p k34 t (n+1) k (by rw[←Nat.add_assoc,←List.drop_drop,ht];rfl) (by omega) (by omega)]
      rw[List.length_cons];congr 2;omega
theorem Xb (hb:l.length≤2^40) (hN:l.length+10≤N) (hi:i≤l.length):Jr N l (i:Int)=some (M4 N l i):=by
  obtain⟨t0,ht0⟩: ∃t0,l.drop i=t0:=⟨_,rfl⟩
  have hl0:=DC ht0 hi
  have hw:=Kc wsB t0
  unfold Jr M4
  have c1: ¬((i:Int)<0):=by omega
  have c2: ¬((i:Int)>(l.length:Int)):=by omega
  refine(CK (a:=false) fun k=>?_).trans ?_
  · rw[if_neg (by simp),decide_eq_false c2]
  try dsimp only
  rw[if_neg (by decide)]
  refine(CK (a:=((i+(t0.takeWhile wsB).length:Nat):Int)) fun k=>PR (by omega) k t0 i N ht0 hi (by omega)).trans ?_
  rw[ht0]
  generalize hp:i+(t0.takeWhile wsB).length=p at *
  have hpl:p≤l.length:=by omega
  obtain⟨t,ht⟩: ∃t,l.drop p=t:=⟨_,rfl⟩
  have hl:=DC ht hpl
  rw[ht]
  try dsimp only
  cases t with
  | nil=>
    simp only[List.length_nil]at hl
    rw[if_pos (by simp;omega)]
    have:(p:Int)=(l.length:Int):=by omega
    unfold SS;rfl
  | cons c r=>
    simp only[List.length_cons]at hl
    rw[Ja,if_neg (by simp;omega),head_drop ht,Option.bind_some,Oa _ _ (by decide),Option.bind_some]
    have w1:wr .i64 ((p:Int)+1)=((p+1:Nat):Int):=by rw[Ak (by omega)];simp
    have hsub1:sub l (p:Int) ((p+1:Nat):Int)=some [c]:=by
      rw[FE l p (p+1) (by omega) (by omega),Nat.add_sub_cancel_left,ht];rfl
    rw[show([123,125,91,93,58,44]:List UInt8)=Mx from rfl]
    by_cases c3:Mx.contains c=true
    · rw[if_pos c3,if_pos c3,w1,hsub1,Option.bind_some]
    · rw [if_neg c3,if_neg c3,AMG]
      by_cases c4:c.toNat=34
      · rw[if_pos (decide_eq_true c4),if_pos c4,AJx (by omega) (by omega) (by omega),Option.bind_some]
        have hr:l.drop (p+1)=r:=by rw[←List.drop_drop,ht];rfl
        rw[hr]
        unfold outT
        by_cases c5:(Dx N r (p+1) []).2.2=0
        · rw[if_pos c5,if_neg (by simp),if_pos c5]
        · rw[if_neg c5,if_pos (by simpa using c5),if_neg c5];rfl
      · rw [if_neg (by simpa using c4),if_neg c4]
        refine(CK (a:=(([45]:List UInt8).contains c||Cu c)) fun k=>?_).trans ?_
        · rw[AFA,VG,Option.bind_some]
          cases ([45]:List UInt8).contains c<;>rfl
        try dsimp only
        have hsubl:sub l (p:Int) (l.length:Int)=some (c::r):=by
          rw[FE l p l.length (by omega) (by omega),ht,List.take_of_length_le (by simp only[List.length_cons];omega)]
        by_cases c5:(([45]:List UInt8).contains c||Cu c)=true
        · rw[if_pos c5,if_pos c5,hsubl,Option.bind_some,MC _ (by simp only[List.length_cons];omega) (by simp only[List.length_cons];omega),Option.bind_some]
          have hn:=P6 (c::r)
          simp only[List.length_cons]at hn
          by_cases c6:Cz (c::r)=0
          · rw[if_pos (by rw[c6];rfl),if_pos c6];rfl
          · rw[if_neg (by simp;omega),if_neg c6,Ak (by omega),show(p:Int)+((Cz (c::r):Nat):Int)=((p+Cz (c::r):Nat):Int) by simp]
            rw[FE l p _ (by omega) (by omega),Option.bind_some,Nat.add_sub_cancel_left,ht]
        · rw[if_neg c5,if_neg c5]
          have hwl:=Kc Eb (c::r)
          simp only[List.length_cons]at hwl
          refine(CK (a:=((((c::r).takeWhile Eb).length:Nat):Int)) fun k=>?_).trans ?_
          · have:=Rh (N:=N) (l:=l) (by omega) p k (c::r) 0 N (by rw[Nat.add_zero];exact ht) (by omega) (by simp only[List.length_cons];omega)
            rw[Nat.zero_add]at this
            exact this
          try dsimp only
          rw[Ak (by omega),show(p:Int)+((((c::r).takeWhile Eb).length:Nat):Int)=((p+((c::r).takeWhile Eb).length:Nat):Int) by simp]
          rw[TB Eb ht hpl,Option.bind_some]
          refine(CK (a:=isWord ((c::r).takeWhile Eb)) fun k=>ADW _ k).trans ?_
          try dsimp only
          by_cases c6:isWord ((c::r).takeWhile Eb)=true
          · rw[if_pos c6,if_pos c6]
          · rw[if_neg c6,if_neg c6];rfl
end
end
end Go.VM
