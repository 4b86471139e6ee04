import Derived.Test.YtooeobhihpkicaaGreatDoorL1
set_option linter.unusedVariables false
set_option linter.unusedSimpArgs false
namespace Go.VM
section
variable{N:Nat}
def H6:List UInt8→Option Nat
  |x::y::a::b::c::d::_=>if x=92∧y=117∧ [a,b,c,d].all LC=true then some (RV 0 [a,b,c,d])else none
  |_=>none
theorem PZ{t:List UInt8} (h:t.length<6):H6 t=none:=by
  match t,h with
  |[],_=>rfl
  |[_],_=>rfl
  |[_,_],_=>rfl
  |[_,_,_],_=>rfl
  |[_,_,_,_],_=>rfl
  |[_,_,_,_,_],_=>rfl
  |_::_::_::_::_::_::_,h=>simp at h;omega
theorem six{t:List UInt8} (h: ¬t.length<6): ∃x y a b c d r,t=x::y::a::b::c::d::r:=by
  match t,h with
  |x::y::a::b::c::d::r,_=>exact⟨x,y,a,b,c,d,r,rfl⟩
  |[],h=>simp at h
  |[_],h=>simp at h
  |[_,_],h=>simp at h
  |[_,_,_],h=>simp at h
  |[_,_,_,_],h=>simp at h
  |[_,_,_,_,_],h=>simp at h
theorem AFb (l:List UInt8):(ACr l).2=if l.all LC=true then 0 else 1:=by unfold ACr;split<;>rfl
theorem AFf (l:List UInt8):(ACr l).1=if l.all LC=true then((RV 0 l:Nat):Int)else 0:=by unfold ACr;split<;>rfl
theorem Nj{l t:List UInt8}{i:Nat} (ht:l.drop i=t) (hi:i≤l.length) (hb:l.length≤2^50):
    Gx N l (i:Int)=some (match H6 t with|some n=>((n:Int),true)|none=>(0,false)):=by
  have hl:=Cy ht hi
  unfold Gx
  have w6:wr .i64 ((i:Int)+6)=((i+6:Nat):Int):=by rw[Ai (by omega)];simp
  have w2:wr .i64 ((i:Int)+2)=((i+2:Nat):Int):=by rw[Ai (by omega)];simp
  have w1:wr .i64 ((i:Int)+1)=((i+1:Nat):Int):=by rw[Ai (by omega)];simp
  simp only[AZ,w6,w2,w1]
  by_cases h6:t.length<6
  · have:((i+6:Nat):Int)>(l.length:Int):=by omega
    simp only[this,decide_true,if_true,PZ h6]
  · have c0: ¬((i+6:Nat):Int)>(l.length:Int):=by omega
    simp only[c0,decide_false,Bool.false_eq_true,if_false]
    obtain⟨x,y,a,b,c,d,r,rfl⟩:=six h6
    have hx:=Kn (j:=0) ht rfl
    simp only[Nat.add_zero]at hx
    have hy:=Kn (j:=1) ht rfl
    rw[hx,Option.bind_some,hy,Option.bind_some,FE l (i+2) (i+6) (by omega) (by omega),Option.bind_some]
    have e:(l.drop (i+2)).take (i+6-(i+2))=[a,b,c,d]:=by
      rw[←List.drop_drop,ht,show i+6-(i+2)=4 by omega];rfl
    rw[e,AFg _ (by simp) (by simp),Option.bind_some]
    unfold H6
    by_cases k1:x=92
    · have k1':((Am x) !=92)=false:=by subst k1;rfl
      simp only[k1',Bool.false_eq_true,if_false]
      by_cases k2:y=117
      · have k2':((Am y) !=117)=false:=by subst k2;rfl
        simp only[k2',Bool.false_eq_true,if_false,k1,k2,true_and]
        rw[AFb,AFf]
        by_cases k3:[a,b,c,d].all LC=true
        · have:=V8 [a,b,c,d] 0 k3
          simp only[k3,if_true]
          rw[Hy (by simp at this;omega)];rfl
        · simp only[k3,if_false,Bool.false_eq_true];rfl
      · have k2':((Am y) !=117)=true:=by
          have: ¬y.toNat=117:=fun e=>k2 (UInt8.toNat_inj.1 e)
          simp only[bne_iff_ne,ne_eq,Am];omega
        simp only[k2',if_true,k2,false_and,and_false,if_false]
    · have k1':((Am x) !=92)=true:=by
        have: ¬x.toNat=92:=fun e=>k1 (UInt8.toNat_inj.1 e)
        simp only[bne_iff_ne,ne_eq,Am];omega
      simp only[k1',if_true,k1,false_and,if_false]
theorem RZ{l t:List UInt8}{i n:Nat} (hu:H6 t=some n) (ht:l.drop i=t) (hi:i≤l.length) (hb:l.length≤2^50):Gx N l (i:Int)=some ((n:Int),true):=by
  rw[Nj ht hi hb,hu]
theorem AAM{l t:List UInt8}{i:Nat} (hu:H6 t=none) (ht:l.drop i=t) (hi:i≤l.length) (hb:l.length≤2^50):Gx N l (i:Int)=some (0,false):=by
  rw[Nj ht hi hb,hu]
theorem NU{t:List UInt8}{n:Nat} (h:H6 t=some n):n<65536∧6≤t.length∧ ∃r,t=92::117::r:=by
  by_cases h6:t.length<6
  · rw[PZ h6]at h;cases h
  · obtain⟨x,y,a,b,c,d,r,rfl⟩:=six h6
    simp only[H6]at h
    by_cases hc:x=92∧y=117∧ [a,b,c,d].all LC=true
    · rw[if_pos hc]at h
      simp only[Option.some.injEq]at h;subst h
      have:=V8 [a,b,c,d] 0 hc.2.2
      obtain⟨rfl,rfl,_⟩:=hc
      exact⟨by simpa using this,by simp,_,rfl⟩
    · rw[if_neg hc]at h;cases h
def Lp (n:Nat):Option UInt8:=
  if n=34 then some 34 else if n=92 then some 92 else if n=47 then some 47 else if n=98 then some 8 else if n=102 then some 12 else if n=110 then some 10 else if n=114 then some 13 else if n=116 then some 9 else none
def Qy (hi lo:Nat):Nat:=65536+(hi-55296) * 1024+lo-56320
def JM (t:List UInt8):List UInt8×Nat×Int:=
  match H6 t with
  | some hi=>
    if 55296≤hi∧hi≤56319 then
      match H6 (t.drop 6)with
      |some lo=>if 56320≤lo∧lo≤57343 then(MZ (Qy hi lo),12,0)else([],0,7)
      |none=>([],0,7)
    else if 56320≤hi∧hi≤57343 then([],0,7)else(MZ hi,6,0)
  | none=>
    match t with
    |_::c::_=>match Lp c.toNat with|some b=>([b],2,0)|none=>([],0,130)
    |_=>([],0,130)
def Ww (i:Nat) (r:List UInt8×Nat×Int):List UInt8×Int×Int:=if r.2.2=0 then(r.1,((i+r.2.1:Nat):Int),0)else([],0,r.2.2)
theorem Po{i n:Nat}{x:List UInt8}:Ww i (x,n,0)=(x,((i+n:Nat):Int),0):=rfl
theorem OY{i:Nat}:Ww i ([],0,7)=([],0,7):=rfl
theorem Rq{i:Nat}:Ww i ([],0,130)=([],0,130):=rfl
theorem ACN: ∀j:Nat,j<8→(EI [34,92,47,98,102,110,114,116] j).2=1:=by
  intro j h
  match j,h with
  |0,_=>rfl
  |1,_=>rfl
  |2,_=>rfl
  |3,_=>rfl
  |4,_=>rfl
  |5,_=>rfl
  |6,_=>rfl
  |7,_=>rfl
def Oi (n:Nat):Nat→Nat→Option UInt8
  |0,_=>none
  |k+1,j=>if([34,92,47,98,102,110,114,116]:List Nat)[j]?=some n then([34,92,47,8,12,10,13,9]:List UInt8)[j]? else Oi n k (j+1)
theorem P9{l:List UInt8}{i:Nat}{c:UInt8} (hc:idx l ((i+1:Nat):Int)=some c) (hb:i+10≤2^60) (k2:Unit→Option (List UInt8×Int×Int)):
    ∀(m k j:Nat),j+m=8→m<k→DJ N l (i:Int) k2 k j=match Oi c.toNat m j with|some b=>some ([b],((i+2:Nat):Int),0)|none=>k2 ()
  | 0,k+1,j,h,_=>by
    rw[DJ]
    have: ¬j<8:=by omega
    simp[this,Oi]
  | m+1,k+1,j,h,hk=>by
    rw[DJ]
    have hj:j<8:=by omega
    have w1:wr .i64 ((i:Int)+1)=((i+1:Nat):Int):=by rw[Ai (by omega)];simp
    have w2:wr .i64 ((i:Int)+2)=((i+2:Nat):Int):=by rw[Ai (by omega)];simp
    have w3:wr .i64 ((j:Int)+1)=((j+1:Nat):Int):=by rw[Ai (by omega)];simp
    simp only[hj,decide_true,if_true,w1,w2,w3,hc,Option.bind_some,ACN j hj]
    rw[P9 hc hb k2 m k (j+1) (by omega) (by omega),Oi]
    have hcn:=c.toNat_lt
    obtain⟨x,y,e1,e2,e3,e4⟩: ∃x y:UInt8,idx ([34,92,47,98,102,110,114,116]:List UInt8) (j:Int)=some x∧([34,92,47,98,102,110,114,116]:List Nat)[j]?=some x.toNat∧([34,92,47,8,12,10,13,9]:List UInt8)[j]?=some y∧sub ([34,92,47,8,12,10,13,9]:List UInt8) (j:Int) ((j+1:Nat):Int)=some [y]:=by
      match j,hj with
      |0,_=>exact⟨_,_,rfl,rfl,rfl,rfl⟩
      |1,_=>exact⟨_,_,rfl,rfl,rfl,rfl⟩
      |2,_=>exact⟨_,_,rfl,rfl,rfl,rfl⟩
      |3,_=>exact⟨_,_,rfl,rfl,rfl,rfl⟩
      |4,_=>exact⟨_,_,rfl,rfl,rfl,rfl⟩
      |5,_=>exact⟨_,_,rfl,rfl,rfl,rfl⟩
      |6,_=>exact⟨_,_,rfl,rfl,rfl,rfl⟩
      |7,_=>exact⟨_,_,rfl,rfl,rfl,rfl⟩
    rw[e1,Option.bind_some,e2,e3,e4,Option.bind_some]
    by_cases h:x.toNat=c.toNat
    · have:(Am x==Am c)=true:=by simp[Am,h]
      simp[this,h]
    · have:(Am x==Am c)=false:=by simp only[Am,beq_eq_false_iff_ne,ne_eq];omega
      simp[this,h]
theorem AC0 (c:UInt8):Oi c.toNat 8 0=Lp c.toNat:=Fg (f:=fun n=>Oi n 8 0) (g:=Lp) (by kernel_rfl) c
theorem ABV{hi lo:Nat} (h1:55296≤hi∧hi≤56319) (h2:56320≤lo∧lo≤57343):Di ((Qy hi lo:Nat):Int)=true:=by
  have h:65536≤Qy hi lo∧Qy hi lo≤1114111:=by unfold Qy;omega
  generalize Qy hi lo=n at h
  simp only[Di,Bool.and_eq_true,Bool.or_eq_true,decide_eq_true_eq];omega
theorem ALV{hi lo:Nat} (h1:55296≤hi∧hi≤56319) (h2:56320≤lo∧lo≤57343):wr .i64 (wr .i64 (wr .i64 (65536+wr .i64 (wr .i64 ((hi:Int)-55296) * 1024))+(lo:Int))-56320)=((Qy hi lo:Nat):Int):=by
  rw[Ai (n:=(hi:Int)-55296) (by omega),Ai (n:=((hi:Int)-55296) * 1024) (by omega),Ai (n:=65536+((hi:Int)-55296) * 1024) (by omega),Ai (n:=65536+((hi:Int)-55296) * 1024+(lo:Int)) (by omega),Ai (by omega)]
  unfold Qy;omega
theorem Xl{l t:List UInt8}{i:Nat} (ht:l.drop i=t) (hi:i≤l.length) (hb:l.length≤2^50) (hN:9≤N) (k2:Unit→Option (List UInt8×Int×Int)):
    (if decide (((i+1:Nat):Int)<(l.length:Int))=true then DJ N l (i:Int) k2 N 0 else k2 ())=match t with
      |_::c::_=>(match Lp c.toNat with|some b=>some ([b],((i+2:Nat):Int),0)|none=>k2 ())
      |_=>k2 ():=by
  have hl:=Cy ht hi
  match t,ht,hl with
  | [],ht,hl=>
    simp only[List.length_nil]at hl
    have: ¬((i+1:Nat):Int)<(l.length:Int):=by omega
    simp only[this,decide_false,Bool.false_eq_true,if_false]
  | [_],ht,hl=>
    simp only[List.length_cons,List.length_nil]at hl
    have: ¬((i+1:Nat):Int)<(l.length:Int):=by omega
    simp only[this,decide_false,Bool.false_eq_true,if_false]
  | _::c::r,ht,hl=>
    simp only[List.length_cons]at hl
    have:((i+1:Nat):Int)<(l.length:Int):=by omega
    simp only[this,decide_true,if_true]
    rw[P9 (c:=c) (Kn ht rfl) (by omega) k2 8 N 0 (by omega) (by omega),AC0]
def NK (t:List UInt8):List UInt8×Nat×Int:=
  match t with
  |_::c::_=>(match Lp c.toNat with|some b=>([b],2,0)|none=>([],0,130))
  |_=>([],0,130)
theorem OP{t:List UInt8} (h:H6 t=none):JM t=NK t:=by
  unfold JM NK;rw[h]
theorem Oo{t:List UInt8}{hi:Nat} (h:H6 t=some hi):JM t=((
    if 55296≤hi∧hi≤56319 then
      match H6 (t.drop 6)with
      |some lo=>if 56320≤lo∧lo≤57343 then(MZ (Qy hi lo),12,0)else([],0,7)
      |none=>([],0,7)
    else if 56320≤hi∧hi≤57343 then([],0,7)else(MZ hi,6,0)):List UInt8×Nat×Int):=by
  unfold JM;rw[h]
theorem U9{n:Nat} (h:Di (n:Int)=true):encR (n:Int)=(MZ n,0):=by unfold encR;rw[if_pos h];rfl
theorem AIs:Lp (117:UInt8).toNat=none:=by rw[show(117:UInt8).toNat=117 from rfl];rfl
theorem AJU{l r:List UInt8}{i:Nat} (ht:l.drop i=92::117::r) (hi:i≤l.length) (hb:l.length≤2^50) (hN:9≤N) (k2:Unit→Option (List UInt8×Int×Int)):
    (if decide (((i+1:Nat):Int)<(l.length:Int))=true then DJ N l (i:Int) k2 N 0 else k2 ())=k2 ():=by
  rw[Xl ht hi hb hN k2]
  show(match Lp (117:UInt8).toNat with|some b=>some ([b],((i+2:Nat):Int),(0:Int))|none=>k2 ())=k2 ()
  rw[AIs]
theorem ABR{l t:List UInt8}{i:Nat} (ht:l.drop i=t) (hi:i≤l.length) (hb:l.length≤2^50) (hN:9≤N):
    IW N l (i:Int)=some (Ww i (JM t)):=by
  have hl:=Cy ht hi
  unfold IW
  have w1:wr .i64 ((i:Int)+1)=((i+1:Nat):Int):=by rw[Ai (by omega)];simp
  have w6:wr .i64 ((i:Int)+6)=((i+6:Nat):Int):=by rw[Ai (by omega)];simp
  have w12:wr .i64 ((i:Int)+12)=((i+12:Nat):Int):=by rw[Ai (by omega)];simp
  simp only[AZ,w1,w6,w12]
  cases hu:H6 t with
  | none=>
    refine(Xl ht hi hb hN _).trans ?_
    simp only[Nj ht hi hb,hu]
    rw[OP hu]
    simp only[Option.bind_some,Bool.false_eq_true,if_false]
    match t with
    |[]=>rfl
    |[_]=>rfl
    | _::c::r=>
      simp only[NK]
      cases Lp c.toNat<;>rfl
  | some hi'=>
    obtain⟨h1,h2,r,rfl⟩:=NU hu
    refine(AJU ht hi hb hN _).trans ?_
    rw[Oo hu]
    rw[RZ hu ht hi hb,Option.bind_some]
    rw[if_pos rfl]
    by_cases c1:55296≤hi'∧hi'≤56319
    · have d1: ¬(hi':Int)<55296:=by omega
      have d2: ¬(hi':Int)>57343:=by omega
      have d3: ¬(hi':Int)>56319:=by omega
      simp only[c1,d1,d2,d3,and_self,if_true,decide_false,Bool.false_eq_true,if_false]
      have ht6:l.drop (i+6)=(92::117::r).drop 6:=by rw[←List.drop_drop,ht]
      cases hu2:H6 ((92::117::r).drop 6)with
      |none=>rw[AAM hu2 ht6 (by omega) hb,Option.bind_some,if_neg (by decide)];simp only[OY]
      | some lo=>
        rw[RZ hu2 ht6 (by omega) hb,Option.bind_some,if_pos rfl]
        simp only[]
        by_cases c2:56320≤lo∧lo≤57343
        · have e1: ¬(lo:Int)<56320:=by omega
          have e2: ¬(lo:Int)>57343:=by omega
          have key:=Np (N:=N) ((Qy hi' lo:Nat):Int)
          rw[U9 (ABV c1 c2)]at key
          rw[if_pos c2,Po]
          simp only[e1,e2,decide_false,Bool.false_eq_true,if_false]
          rw[ALV c1 c2,key,Option.bind_some]
        · by_cases c3:(lo:Int)<56320
          · simp only[c3,decide_true,if_true,c2,if_false,OY]
          · have e2:(lo:Int)>57343:=by omega
            simp only[c3,e2,decide_true,decide_false,Bool.false_eq_true,if_false,if_true,c2,OY]
    · by_cases c2:56320≤hi'∧hi'≤57343
      · have d1: ¬(hi':Int)<55296:=by omega
        have d2: ¬(hi':Int)>57343:=by omega
        have d3:(hi':Int)>56319:=by omega
        simp only[c1,c2,d1,d2,d3,and_self,if_true,decide_false,decide_true,Bool.false_eq_true,if_false]
        rw[Nj (t:=(92::117::r).drop 6) (by rw[←List.drop_drop,ht]) (by omega) hb]
        simp only[Option.bind_some,Po,OY,Rq]
      · have hp:Di (hi':Int)=true:=by
          simp only[Di,Bool.and_eq_true,Bool.or_eq_true,decide_eq_true_eq];omega
        rw[if_neg c1,if_neg c2]
        by_cases c3:(hi':Int)<55296
        · simp only[c3,decide_true,if_true]
          rw[Np,U9 hp];simp only[Option.bind_some,Po,OY,Rq]
        · have d2:(hi':Int)>57343:=by omega
          simp only[c3,d2,decide_true,decide_false,Bool.false_eq_true,if_false,if_true]
          rw[Np,U9 hp];simp only[Option.bind_some,Po,OY,Rq]
end
end Go.VM
namespace Go.VM
section
variable{N:Nat}
theorem QK {t:List UInt8}{r n:Nat} (h:JP t=some (r,n)):1≤n∧n≤t.length∧n≤4:=by
  match t,h with
  |[],h=>cases h
  | a :: t, h=>
    simp only[JP]at h
    split at h
    · simp only[Option.some.injEq,Prod.mk.injEq]at h;obtain⟨_,rfl⟩:=h;simp
    · split at h
      · match t,h with
        |[],h=>cases h
        | b::t,h=>
          simp only at h
          split at h
          · simp only[Option.some.injEq,Prod.mk.injEq]at h;obtain⟨_,rfl⟩:=h;simp
          · cases h
      · split at h
        · match t,h with
          |[],h=>cases h
          |[_],h=>cases h
          | b::c::t,h=>
            simp only at h
            split at h
            · simp only[Option.some.injEq,Prod.mk.injEq]at h;obtain⟨_,rfl⟩:=h;simp
            · cases h
        · split at h
          · match t,h with
            |[],h=>cases h
            |[_],h=>cases h
            |[_,_],h=>cases h
            | b::c::d::t,h=>
              simp only at h
              split at h
              · simp only[Option.some.injEq,Prod.mk.injEq]at h;obtain⟨_,rfl⟩:=h;simp
              · cases h
          · cases h
theorem WN (r:Nat):1≤(MZ r).length∧(MZ r).length≤4:=by
  unfold MZ
  split
  · simp
  · split
    · simp
    · split<;>simp
theorem AEt{t:List UInt8} (h:(JM t).2.2=0):2≤(JM t).2.1∧(JM t).2.1≤t.length∧(JM t).1.length≤4∧(JM t).1.length≤(JM t).2.1:=by
  cases hu:H6 t with
  | none=>
    rw[OP hu]at h⊢
    match t,h with
    |[],h=>cases h
    |[_],h=>cases h
    | _::c::r,h=>
      simp only[NK]at h⊢
      cases hs:Lp c.toNat with
      |none=>rw[hs]at h;cases h
      |some b=>simp
  | some hi=>
    obtain⟨h1,h2,_⟩:=NU hu
    rw[Oo hu]at h⊢
    by_cases c1:55296≤hi∧hi≤56319
    · simp only[c1,and_self,if_true]at h⊢
      cases hu2:H6 (t.drop 6)with
      |none=>rw[hu2]at h;cases h
      | some lo=>
        obtain⟨_,h3,_⟩:=NU hu2
        rw[hu2]at h
        simp only at h⊢
        by_cases c2:56320≤lo∧lo≤57343
        · simp only[c2,and_self,if_true]at h⊢
          have:=WN (Qy hi lo)
          rw[List.length_drop]at h3
          exact⟨by omega,by omega,by omega,by omega⟩
        · rw[if_neg c2]at h;cases h
    · rw[if_neg c1]at h⊢
      by_cases c2:56320≤hi∧hi≤57343
      · rw[if_pos c2]at h;cases h
      · rw[if_neg c2]
        have:=WN hi
        exact⟨by simp,by simpa using h2,by simpa using this.2,by simp only[];omega⟩
def GA:Nat→List UInt8→Nat→List UInt8→List UInt8×Nat×Int
  |0,_,_,_=>([],0,130)
  |_+1,[],_,_=>([],0,130)
  | k+1,c::t,i,out=>
    if c.toNat=34 then(out,i+1,0)
    else if c.toNat=92 then
      if(JM (c::t)).2.2=0 then GA k ((c::t).drop (JM (c::t)).2.1) (i+(JM (c::t)).2.1) (out++(JM (c::t)).1)
      else([],0,(JM (c::t)).2.2)
    else if c.toNat<32 then([],0,130)
    else
      match JP (c::t)with
      |some (_,n)=>GA k ((c::t).drop n) (i+n) (out++(c::t).take n)
      |none=>([],0,7)
def outT (r:List UInt8×Nat×Int):List UInt8×Int×Int:=if r.2.2=0 then(r.1,(r.2.1:Int),0)else([],0,r.2.2)
theorem RL{n:Nat}{k:Nat}:((n:Int)==(k:Int))=decide (n=k):=by
  by_cases h:n=k
  · simp[h]
  · have: ¬(n:Int)=(k:Int):=by omega
    simp[h];omega
theorem ALq (c:UInt8):(Am c==34)=decide (c.toNat=34):=RL (k:=34)
theorem AMS (c:UInt8):(Am c==92)=decide (c.toNat=92):=RL (k:=92)
theorem AMP (c:UInt8):decide (Am c<32)=decide (c.toNat<32):=by
  have:=c.toNat_lt
  simp only[Am];congr 1;simp only[eq_iff_iff];omega
theorem Qv{i r n:Nat}:HZ i (some (r,n))=((r:Int),((i+n:Nat):Int),0):=rfl
theorem head_drop{l t:List UInt8}{c:UInt8}{i:Nat} (ht:l.drop i=c::t):idx l (i:Int)=some c:=by
  have:=Kn (j:=0) ht rfl
  simpa using this
section
variable{l:List UInt8}
theorem NC (hb:l.length≤2^50) (hN:9≤N) (k2:Unit→Option (List UInt8×Int×Int)) (hk:k2 ()=some ([],0,130)): ∀(k:Nat) (t:List UInt8) (i:Nat) (out:List UInt8),l.drop i=t→i≤l.length→t.length<k→out.length≤i→
    ES N l k2 k out (i:Int)=some (outT (GA k t i out))
  |0,t,i,out,ht,hi,h,ho=>by omega
  | k+1,[],i,out,ht,hi,h,ho=>by
    have hl:=Cy ht hi
    simp only[List.length_nil]at hl
    have c: ¬(i:Int)<(l.length:Int):=by omega
    rw[ES,GA]
    simp only[c,decide_false,Bool.false_eq_true,if_false,hk];rfl
  | k+1,c::t,i,out,ht,hi,h,ho=>by
    have hl:=Cy ht hi
    simp only[List.length_cons]at hl h
    have c0:(i:Int)<(l.length:Int):=by omega
    have w1:wr .i64 ((i:Int)+1)=((i+1:Nat):Int):=by rw[Ai (by omega)];simp
    rw[ES,GA]
    rw[if_pos (decide_eq_true c0),head_drop ht,Option.bind_some,ALq,AMS,AMP,w1]
    by_cases c1:c.toNat=34
    · rw[if_pos (decide_eq_true c1),if_pos c1];rfl
    · rw [if_neg (by simpa using c1),if_neg c1]
      by_cases c2:c.toNat=92
      · rw[if_pos (decide_eq_true c2),if_pos c2,ABR ht hi hb hN,Option.bind_some]
        by_cases c3:(JM (c::t)).2.2=0
        · obtain⟨e1,e2,e3,e4⟩:=AEt c3
          have ho2:Ww i (JM (c::t))=((JM (c::t)).1,((i+(JM (c::t)).2.1:Nat):Int),0):=by unfold Ww;rw[if_pos c3]
          rw[ho2,if_neg (by simp),AY (by unfold BX;simp only[];omega),if_pos c3]
          simp only[List.length_cons]at e2
          exact NC hb hN k2 hk k _ _ _ (by rw[←List.drop_drop,ht]) (by omega) (by simp only[List.length_drop,List.length_cons];omega) (by simp only[List.length_append];omega)
        · have ho2:Ww i (JM (c::t))=([],0,(JM (c::t)).2.2):=by unfold Ww;rw[if_neg c3]
          rw[ho2,if_pos (by simpa using c3),if_neg c3]
          unfold outT;rw[if_neg c3]
      · rw [if_neg (by simpa using c2),if_neg c2]
        by_cases c3:c.toNat<32
        · rw[if_pos (decide_eq_true c3),if_pos c3];rfl
        · rw[if_neg (by simpa using c3),if_neg c3,AE5 (by omega) (by omega) (by omega),Option.bind_some,ht]
          cases hd:JP (c::t)with
          |none=>rfl
          | some p=>
            obtain⟨r,n⟩:=p
            obtain⟨e1,e2,e3⟩:=QK hd
            simp only[List.length_cons]at e2
            rw[Qv,if_neg (by simp),FE l i (i+n) (by omega) (by omega),Option.bind_some,Nat.add_sub_cancel_left,ht]
            rw[AY (by unfold BX;rw[List.length_take,List.length_cons];omega)]
            exact NC hb hN k2 hk k _ _ _ (by rw[←List.drop_drop,ht]) (by omega) (by simp only[List.length_drop,List.length_cons];omega) (by rw[List.length_append,List.length_take];omega)
theorem AJG (hb:l.length≤2^50) (hN:l.length+9≤N){i:Nat} (hi:i<l.length):Jo N l (i:Int)=some (outT (GA N (l.drop (i+1)) (i+1) [])):=by
  unfold Jo
  rw[AZ,Ai (by omega)]
  exact NC hb (by omega) _ rfl N _ (i+1) [] rfl (by omega) (by rw[List.length_drop];omega) (by simp)
end
end
end Go.VM
namespace Go.VM
section
variable{N:Nat}
theorem M7{α:Type} (p:α→Bool) (t:List α):t.take (t.takeWhile p).length=t.takeWhile p:=
  (List.prefix_iff_eq_take.1 (List.takeWhile_prefix p)).symm
theorem Nc{α:Type} (p:α→Bool) (t:List α):(t.takeWhile p).length≤t.length:=(List.takeWhile_sublist p).length_le
def Du (c:UInt8):Bool:=decide (48≤c.toNat)&&decide (c.toNat≤57)
def AGc (n:Nat):Bool:=(decide (65≤n)&&decide (n≤90))||(decide (97≤n)&&decide (n≤122))
def Fw (c:UInt8):Bool:=AGc c.toNat
def wsN (n:Nat):Bool:=decide (n=32)||decide (n=9)||decide (n=10)||decide (n=13)
def wsB (c:UInt8):Bool:=wsN c.toNat
theorem ABl (c:UInt8):Fu N (Am c)=some (Du c):=
  Fg (f:=fun n=>Fu N (n:Int)) (g:=fun n=>some (decide (48≤n)&&decide (n≤57))) (by kernel_rfl) c
theorem V3 (c:UInt8):ET N (Am c)=some (Du c):=
  Fg (f:=fun n=>ET N (n:Int)) (g:=fun n=>some (decide (48≤n)&&decide (n≤57))) (by kernel_rfl) c
theorem ADN (c:UInt8):Hm N (Am c)=some (Fw c):=
  Fg (f:=fun n=>Hm N (n:Int)) (g:=fun n=>some (AGc n)) (by kernel_rfl) c
theorem YO (c:UInt8) (k2:Unit→Option Bool) (h:k2 ()=some false): ∀l:List UInt8,Ep N (Am c) k2 l=some (l.contains c)
  |[]=>by rw[Ep];simpa using h
  | x::l=>by
    rw[Ep,YO c k2 h l,List.contains_cons]
    by_cases e:x=c
    · subst e;simp
    · have e1: ¬c=x:=fun h=>e h.symm
      have:(Am x==Am c)=false:=by
        have: ¬x.toNat=c.toNat:=fun h=>e (UInt8.toNat_inj.1 h)
        simp only[Am,beq_eq_false_iff_ne,ne_eq];omega
      simp[this,e1]
theorem Oq (c:UInt8) (l:List UInt8) (h:l.length≤1000):Gr N (Am c) l=some (l.contains c):=by
  unfold Gr
  rw[AZ,OL (by omega)]
  exact YO c _ rfl l
theorem AKC (c:UInt8):JJ N (Am c)=some (wsB c):=by
  unfold JJ
  rw[Oq _ _ (by decide),Option.bind_some]
  have:=Fg (f:=fun n=>some (([32,9,10,13]:List UInt8).contains (UInt8.ofNat n))) (g:=fun n=>some (wsN n)) (by kernel_rfl) c
  simp only[UInt8.ofNat_toNat]at this
  exact this
theorem index_ge: ∀(l:List UInt8) (c:UInt8),decide (Go.Lib.indexByte l c≥0)=l.contains c
  |[],c=>rfl
  | x::l,c=>by
    have ih:=index_ge l c
    have h:=Go.Lib.indexByte_ge l c
    rw[Go.Lib.indexByte,List.contains_cons]
    by_cases e:x=c
    · subst e;simp
    · have e1:(c==x)=false:=by simpa using fun h:c=x=>e h.symm
      have e2:(x==c)=false:=by simpa using e
      rw[e1,e2,Bool.false_or,←ih]
      simp only[Bool.false_eq_true,if_false]
      by_cases k:Go.Lib.indexByte l c= -1
      · simp[k]
      · have k':(Go.Lib.indexByte l c== -1)=false:=by simpa using k
        rw[k'];simp only[Bool.false_eq_true,if_false]
        congr 1;simp only[eq_iff_iff];omega
theorem Sj (l:List UInt8) (c:UInt8):strings_IndexByte N l (Am c)=some (Go.Lib.indexByte l c):=by
  unfold strings_IndexByte Bv;rw[Ki];rfl
section
variable{l:List UInt8}
theorem Xa (hb:l.length≤2^50) (s:Int) (k2:Int→Option (List UInt8×TokenReader)): ∀(t:List UInt8) (i:Nat),l.drop i=t→i≤l.length→A8 N ⟨l,s⟩ k2 t.length (i:Int)=k2 ((i+(t.takeWhile Du).length:Nat):Int)
  |[],i,ht,hi=>by rw[List.length_nil,A8];rfl
  | c::t,i,ht,hi=>by
    have hl:=Cy ht hi
    simp only[List.length_cons]at hl
    rw[List.length_cons,A8]
    rw[head_drop ht,Option.bind_some,ABl,Option.bind_some,List.takeWhile_cons]
    cases Du c
    · simp
    · rw[if_pos rfl,if_pos rfl,show(i:Int)+1=((i+1:Nat):Int) by simp,Xa hb s k2 t (i+1) (by rw[←List.drop_drop,ht];rfl) (by omega)]
      rw[List.length_cons];congr 2;omega
variable{t:List UInt8}{i:Nat}
theorem TT (p:UInt8→Bool) (ht:l.drop i=t) (hi:i≤l.length):sub l (i:Int) ((i+(t.takeWhile p).length:Nat):Int)=some (t.takeWhile p):=by
  have hl:=Cy ht hi
  have:=Nc p t
  rw[FE l i _ (by omega) (by omega),Nat.add_sub_cancel_left,ht,M7]
theorem AG8 (ht:l.drop i=t) (hi:i≤l.length) (hb:l.length≤2^50):Bz N ⟨l,(i:Int)⟩=some (t.takeWhile Du,⟨l,((i+(t.takeWhile Du).length:Nat):Int)⟩):=by
  have hl:=Cy ht hi
  unfold Bz
  rw[AZ,AY (by simp only[];omega)]
  rw[show((l.length:Int)-(i:Int)).toNat=t.length by omega,Xa hb _ _ t i ht hi]
  simp only[]
  rw[TT Du ht hi,Option.bind_some]
def C8 (set t:List UInt8):Bool:=match t with|c::_=>set.contains c|[]=>false
theorem MC (set:List UInt8) (ht:l.drop i=t) (hi:i≤l.length) (hb:l.length≤2^50):Bu N ⟨l,(i:Int)⟩ set=some (C8 set t,⟨l,((i+(if C8 set t=true then 1 else 0):Nat):Int)⟩):=by
  have hl:=Cy ht hi
  unfold Bu
  rw[AZ]
  match t,ht,hl with
  | [],ht,hl=>
    simp only[List.length_nil]at hl
    have c: ¬(i:Int)<(l.length:Int):=by omega
    rw[if_neg (by simpa using c)];rfl
  | c::t,ht,hl=>
    simp only[List.length_cons]at hl
    have c0:(i:Int)<(l.length:Int):=by omega
    rw[if_pos (decide_eq_true c0)]
    simp only[]
    rw[head_drop ht,Option.bind_some,Sj,Option.bind_some,index_ge,Ai (by omega)]
    have key: ∀b:Bool,(if b=true then some (true,(⟨l,(i:Int)+1⟩:TokenReader))else some (false,(⟨l,(i:Int)⟩:TokenReader)))=some (b,(⟨l,((i+(if b=true then 1 else 0):Nat):Int)⟩:TokenReader)):=by
      intro b;cases b<;>simp
    exact key _
def EZ (t:List UInt8):Nat:=(t.takeWhile Du).length
theorem LB (t:List UInt8):EZ t≤t.length:=Nc _ _
theorem TJ (t:List UInt8):(t.takeWhile Du==[])=decide (EZ t=0):=by
  unfold EZ
  cases t.takeWhile Du<;>simp
def A9 (t:List UInt8):Nat:=if C8 [45] t=true then 1 else 0
def DV (t:List UInt8):Nat:=if C8 [48] t=true then 1 else EZ t
def Ef (t:List UInt8):Nat:=if C8 [46] t=true∧0<EZ (t.drop 1)then 1+EZ (t.drop 1)else 0
def Hf (t:List UInt8):Nat:=if C8 [43,45] (t.drop 1)=true then 1 else 0
def JS (t:List UInt8):Nat:=if C8 [101,69] t=true∧0<EZ (t.drop (1+Hf t))then 1+Hf t+EZ (t.drop (1+Hf t))else 0
def EE (t:List UInt8):Nat:=
  if DV (t.drop (A9 t))=0 then 0
  else A9 t+DV (t.drop (A9 t))+Ef (t.drop (A9 t+DV (t.drop (A9 t))))+
    JS (t.drop (A9 t+DV (t.drop (A9 t))+Ef (t.drop (A9 t+DV (t.drop (A9 t))))))
theorem GZ{set t:List UInt8} (h:C8 set t=true):0<t.length:=by
  cases t with
  |nil=>cases h
  |cons=>simp
theorem NP (t:List UInt8):A9 t≤t.length:=by
  unfold A9;split
  · rename_i h;exact GZ h
  · omega
theorem NJ (t:List UInt8):DV t≤t.length:=by
  unfold DV;split
  · rename_i h;exact GZ h
  · exact LB t
theorem Nh (t:List UInt8):Ef t≤t.length:=by
  unfold Ef;split
  · rename_i h
    have:=GZ h.1
    have:=LB (t.drop 1)
    rw[List.length_drop]at this;omega
  · omega
theorem Vq (t:List UInt8):JS t≤t.length:=by
  unfold JS;split
  · rename_i h
    have h1:=GZ h.1
    have:=LB (t.drop (1+Hf t))
    rw[List.length_drop]at this
    have h2:=h.2
    omega
  · omega
theorem Vi (t:List UInt8):EE t≤t.length:=by
  unfold EE
  split
  · omega
  · have h1:=NP t
    have h2:=NJ (t.drop (A9 t))
    have h3:=Nh (t.drop (A9 t+DV (t.drop (A9 t))))
    have h4:=Vq (t.drop (A9 t+DV (t.drop (A9 t))+Ef (t.drop (A9 t+DV (t.drop (A9 t))))))
    simp only[List.length_drop]at h2 h3 h4
    omega
theorem Qa{f:Int} (ht:l.drop i=t) (hi:i≤l.length) (hb:l.length≤2^50):Cg N ⟨l,(i:Int)⟩ f=some ⟨l,if 0<EZ t then((i+EZ t:Nat):Int)else f⟩:=by
  unfold Cg
  rw[AG8 ht hi hb,Option.bind_some]
  simp only[TJ]
  by_cases h:EZ t=0
  · rw[if_pos (decide_eq_true h),if_neg (by omega)]
  · rw[if_neg (by simpa using h),if_pos (by omega)];rfl
theorem Kt{a:Nat} (ht:l.drop i=t) (n:Nat) (h:a=i+n):l.drop a=t.drop n:=by rw[h,←List.drop_drop,ht]
theorem QL (ht:l.drop i=t) (hi:i≤l.length) (hb:l.length≤2^50):
    if EE t=0 then∃q,Ch N ⟨l,(i:Int)⟩=some ([],false,q)else Ch N ⟨l,(i:Int)⟩=some (t.take (EE t),true,⟨l,((i+EE t:Nat):Int)⟩):=by
  have hl:=Cy ht hi
  have h1:=NP t
  have h2:=NJ (t.drop (A9 t))
  have h3:=Nh (t.drop (A9 t+DV (t.drop (A9 t))))
  have h4:=Vq (t.drop (A9 t+DV (t.drop (A9 t))+Ef (t.drop (A9 t+DV (t.drop (A9 t))))))
  simp only[List.length_drop]at h2 h3 h4
  unfold Ch
  rw[MC [45] ht hi hb,Option.bind_some]
  change if EE t=0 then∃q,Ab _ _=some ([],false,q)else Ab _ _=_
  rw[show(if C8 [45] t=true then 1 else 0)=A9 t from rfl]
  have hta:=Kt ht (A9 t) rfl
  rw[MC [48] hta (by omega) hb]
  simp only[Option.bind_some]
  have rest: ∀a:Nat,a=i+(A9 t+DV (t.drop (A9 t)))→DV (t.drop (A9 t))≠0→
      (Ab (fun j11:TokenReader=>Ab (fun j19:TokenReader=>Option.bind (sub j19.s (i:Int) j19.at_) fun x29=>some (x29,true,j19)) fun k20=>
        Option.bind (Bu N j11 ([101,69]:List UInt8)) fun y23=>if y23.1=true then Option.bind (Bu N y23.2 ([43,45]:List UInt8)) fun y25=>Option.bind (Cg N y25.2 j11.at_) fun y27=>k20 y27 else k20 y23.2) fun k12=>
      Option.bind (Bu N ⟨l,(a:Int)⟩ ([46]:List UInt8)) fun y15=>if y15.1=true then Option.bind (Cg N y15.2 (a:Int)) fun y17=>k12 y17 else k12 y15.2)=some (t.take (EE t),true,(⟨l,((i+EE t:Nat):Int)⟩:TokenReader)):=by
    intro a ha hne
    have htb:=Kt ht (A9 t+DV (t.drop (A9 t))) ha
    have hnum:EE t=A9 t+DV (t.drop (A9 t))+Ef (t.drop (A9 t+DV (t.drop (A9 t))))+JS (t.drop (A9 t+DV (t.drop (A9 t))+Ef (t.drop (A9 t+DV (t.drop (A9 t)))))):=by
      unfold EE;rw[if_neg hne]
    have last: ∀b:Nat,b=i+(A9 t+DV (t.drop (A9 t))+Ef (t.drop (A9 t+DV (t.drop (A9 t)))))→
        (Ab (fun j19:TokenReader=>Option.bind (sub j19.s (i:Int) j19.at_) fun x29=>some (x29,true,j19)) fun k20=>
          Option.bind (Bu N ⟨l,(b:Int)⟩ ([101,69]:List UInt8)) fun y23=>if y23.1=true then Option.bind (Bu N y23.2 ([43,45]:List UInt8)) fun y25=>Option.bind (Cg N y25.2 (b:Int)) fun y27=>k20 y27 else k20 y23.2)=some (t.take (EE t),true,(⟨l,((i+EE t:Nat):Int)⟩:TokenReader)):=by
      intro b hb'
      have htc:=Kt ht _ hb'
      have fin: ∀e:Nat,e=i+EE t→(Option.bind (sub l (i:Int) (e:Int)) fun x29=>some (x29,true,(⟨l,(e:Int)⟩:TokenReader)))=some (t.take (EE t),true,(⟨l,((i+EE t:Nat):Int)⟩:TokenReader)):=by
        rintro e rfl
        have:=Vi t
        rw[FE l i _ (by omega) (by omega),Option.bind_some,Nat.add_sub_cancel_left,ht]
      rw[AZ,MC [101,69] htc (by omega) hb,Option.bind_some]
      generalize hc:t.drop (A9 t+DV (t.drop (A9 t))+Ef (t.drop (A9 t+DV (t.drop (A9 t)))))=c at *
      by_cases he:C8 [101,69] c=true
      · have hpos:=GZ he
        have hcl:c.length=t.length-(A9 t+DV (t.drop (A9 t))+Ef (t.drop (A9 t+DV (t.drop (A9 t))))):=by rw[←hc,List.length_drop]
        simp only[he,if_true]
        rw[MC [43,45] (Kt htc 1 rfl) (by omega) hb,Option.bind_some]
        rw[show(if C8 [43,45] (c.drop 1)=true then 1 else 0)=Hf c from rfl]
        have hes:Hf c≤c.length-1:=by
          unfold Hf;split
          · rename_i h;have:=GZ h;rw[List.length_drop]at this;omega
          · omega
        rw[Qa (Kt htc (1+Hf c) (by omega)) (by omega) hb,Option.bind_some]
        by_cases hr:0<EZ (c.drop (1+Hf c))
        · rw[if_pos hr]
          refine fin _ ?_
          rw[hnum,show JS c=1+Hf c+EZ (c.drop (1+Hf c)) by unfold JS;rw[if_pos ⟨he,hr⟩]]
          omega
        · rw[if_neg hr]
          refine fin _ ?_
          rw[hnum,show JS c=0 by unfold JS;rw[if_neg (fun h=>hr h.2)]]
          omega
      · rw[Bool.not_eq_true]at he
        simp only[he,Bool.false_eq_true,if_false]
        refine fin _ ?_
        rw[hnum,show JS c=0 by unfold JS;rw[if_neg (by rw[he];simp)]]
        omega
    rw[AZ,MC [46] htb (by omega) hb,Option.bind_some]
    generalize hc:t.drop (A9 t+DV (t.drop (A9 t)))=c at *
    by_cases he:C8 [46] c=true
    · have hpos:=GZ he
      have hcl:c.length=t.length-(A9 t+DV (t.drop (A9 t))):=by rw[←hc,List.length_drop]
      simp only[he,if_true]
      rw[Qa (Kt htb 1 rfl) (by omega) hb,Option.bind_some]
      by_cases hr:0<EZ (c.drop 1)
      · rw[if_pos hr]
        refine last _ ?_
        rw[show Ef c=1+EZ (c.drop 1) by unfold Ef;rw[if_pos ⟨he,hr⟩]]
        omega
      · rw[if_neg hr]
        refine last _ ?_
        rw[show Ef c=0 by unfold Ef;rw[if_neg (fun h=>hr h.2)]]
        omega
    · rw[Bool.not_eq_true]at he
      simp only[he,Bool.false_eq_true,if_false]
      refine last _ ?_
      rw[show Ef c=0 by unfold Ef;rw[if_neg (by rw[he];simp)]]
      omega
  have hnz:EE t=0↔DV (t.drop (A9 t))=0:=by
    unfold EE
    constructor
    · intro h;by_cases k:DV (t.drop (A9 t))=0
      · exact k
      · rw[if_neg k]at h;omega
    · intro h;rw[if_pos h]
  by_cases h0:C8 [48] (t.drop (A9 t))=true
  · have hin:DV (t.drop (A9 t))=1:=by unfold DV;rw[if_pos h0]
    rw[if_neg (by rw[hnz,hin];decide)]
    simp only[h0,if_true]
    rw[AZ]
    simp only[Bool.false_eq_true,if_false]
    exact rest _ (by rw[hin];omega) (by rw[hin];decide)
  · have hin:DV (t.drop (A9 t))=EZ (t.drop (A9 t)):=by unfold DV;rw[if_neg h0]
    rw[Bool.not_eq_true]at h0
    simp only[h0,Bool.false_eq_true,if_false,Nat.add_zero]
    rw[AG8 hta (by omega) hb]
    simp only[Option.bind_some,AZ,TJ]
    by_cases hr:EZ (t.drop (A9 t))=0
    · rw[if_pos (by rw[hnz,hin];exact hr)]
      simp only[hr,decide_true,if_true]
      exact⟨_,rfl⟩
    · rw[if_neg (by rw[hnz,hin];exact hr)]
      simp only[hr,decide_false,Bool.false_eq_true,if_false]
      have:=rest (i+A9 t+EZ (t.drop (A9 t))) (by rw[hin];omega) (by rw[hin];exact hr)
      simp only[AZ]at this
      exact this
end
end
end Go.VM
namespace Go.VM
section
variable{N:Nat}
theorem CO{α β:Type}{K:α→Option β}{body:(α→Option β)→Option β}{a:α} (h: ∀k:α→Option β,body k=k a):Ab K body=K a:=h K
theorem TW (l:List UInt8) (k2:Int→Option Int) (hb:l.length≤2^50): ∀(t:List UInt8) (i k:Nat),l.drop i=t→i≤l.length→t.length<k→FY N l k2 k (i:Int)=k2 ((i+EZ t:Nat):Int)
  | [],i,k+1,ht,hi,_=>by
    have hl:=Cy ht hi
    simp only[List.length_nil]at hl
    have c: ¬(i:Int)<(l.length:Int):=by omega
    rw[FY,AZ,if_neg (by simpa using c)]
    dsimp only
    rw[if_neg (by decide)];rfl
  | c::t,i,k+1,ht,hi,hk=>by
    have hl:=Cy ht hi
    simp only[List.length_cons]at hl hk
    have c0:(i:Int)<(l.length:Int):=by omega
    rw[FY,AZ,if_pos (decide_eq_true c0),head_drop ht,Option.bind_some,V3,Option.bind_some]
    unfold EZ
    rw[List.takeWhile_cons]
    cases Du c
    · simp
    · dsimp only
      rw[if_pos rfl,if_pos rfl,Ai (by omega),show(i:Int)+1=((i+1:Nat):Int) by simp,TW l k2 hb t (i+1) k (by rw[←List.drop_drop,ht];rfl) (by omega) (by omega)]
      rw[List.length_cons];unfold EZ;congr 2;omega
theorem AH2 (t:List UInt8) (hb:t.length≤2^50) (hN:t.length<N):IC N t=some ((EZ t:Nat):Int):=by
  unfold IC
  rw[AZ]
  have:=TW (N:=N) t (fun j=>some j) hb t 0 N (by simp) (by omega) hN
  simpa using this
theorem QE (t:List UInt8) (i:Nat):Hu N t (i:Int)=some (t.drop i):=by
  unfold Hu
  by_cases h:(i:Int)≥(t.length:Int)
  · rw[if_pos (decide_eq_true h),List.drop_of_length_le (by omega)]
  · rw[if_neg (by simpa using h),FE t i t.length (by omega) (by omega),Option.bind_some,List.take_of_length_le (by simp)]
theorem MP{β:Type} (t:List UInt8) (i:Nat) (k:Bool→Option β) (f:UInt8→Option β) (set:List UInt8) (hf: ∀c r,t.drop i=c::r→f c=k (set.contains c)):
    (if decide ((i:Int)<(t.length:Int))=true then Option.bind (idx t (i:Int)) f else k false)=k (C8 set (t.drop i)):=by
  by_cases hi:i≤t.length
  · obtain⟨u,hu⟩: ∃u,t.drop i=u:=⟨_,rfl⟩
    have hl:=Cy hu hi
    rw[hu]
    cases u with
    | nil=>
      simp only[List.length_nil]at hl
      have c: ¬(i:Int)<(t.length:Int):=by omega
      rw[if_neg (by simpa using c)];rfl
    | cons c r=>
      simp only[List.length_cons]at hl
      have c0:(i:Int)<(t.length:Int):=by omega
      rw[if_pos (decide_eq_true c0),head_drop hu,Option.bind_some,hf c r hu];rfl
  · have c: ¬(i:Int)<(t.length:Int):=by omega
    rw[if_neg (by simpa using c),List.drop_of_length_le (by omega)];rfl
theorem M9 (c:UInt8) (k:UInt8):([k]:List UInt8).contains c=decide (c.toNat=k.toNat):=by
  by_cases h:c=k
  · subst h;simp
  · have: ¬c.toNat=k.toNat:=fun e=>h (UInt8.toNat_inj.1 e)
    simp[h,this]
theorem AEx (c:UInt8):(Am c==45)=([45]:List UInt8).contains c:=by rw[M9];exact RL (k:=45)
theorem AMs (c:UInt8):(Am c==46)=([46]:List UInt8).contains c:=by rw[M9];exact RL (k:=46)
theorem AMZ (c:UInt8):(Am c==48)=([48]:List UInt8).contains c:=by rw[M9];exact RL (k:=48)
theorem Yg{t:List UInt8}:DV t=0↔(t=[]∨ ∃c r,t=c::r∧Du c=false):=by
  cases t with
  |nil=>exact⟨fun _=>.inl rfl,fun _=>rfl⟩
  | cons c r=>
    constructor
    · intro h
      refine .inr ⟨c,r,rfl,?_⟩
      unfold DV at h
      split at h
      · cases h
      · unfold EZ at h
        rw[List.takeWhile_cons]at h
        cases hd:Du c
        · rfl
        · rw[hd]at h;simp at h
    · rintro(h|⟨c',r',h,hd⟩)
      · cases h
      · cases h
        have h48:C8 [48] (c::r)=false:=by
          show([48]:List UInt8).contains c=false
          rw[M9]
          have: ¬c.toNat=48:=fun e=>by simp[Du,e]at hd
          simpa using this
        unfold DV;rw[h48,if_neg (by simp)]
        unfold EZ;rw[List.takeWhile_cons,hd];rfl
theorem MG (t:List UInt8) (hb:t.length≤2^50) (hN:t.length<N):Ga N t=some ((EE t:Nat):Int):=by
  have h1:=NP t
  have h2:=NJ (t.drop (A9 t))
  have h3:=Nh (t.drop (A9 t+DV (t.drop (A9 t))))
  have h4:=Vq (t.drop (A9 t+DV (t.drop (A9 t))+Ef (t.drop (A9 t+DV (t.drop (A9 t))))))
  simp only[List.length_drop]at h2 h3 h4
  have run: ∀n:Nat,IC N (t.drop n)=some ((EZ (t.drop n):Nat):Int):=fun n=>AH2 _ (by rw[List.length_drop];omega) (by rw[List.length_drop];omega)
  have wn: ∀n:Nat,n≤2^51→wr .i64 (n:Int)=(n:Int):=fun n h=>Hy (by omega)
  have w1: ∀n:Nat,n≤2^51→wr .i64 ((n:Int)+1)=((n+1:Nat):Int):=fun n h=>by rw[Ai (by omega)];simp
  have hsub:sub t (A9 t:Int) (t.length:Int)=some (t.drop (A9 t)):=by
    rw[FE t (A9 t) t.length h1 (Nat.le_refl _),List.take_of_length_le (by simp)]
  have hs2:A9 t≤1:=by unfold A9;split<;>omega
  unfold Ga
  refine(CO (a:=((A9 t:Nat):Int)) fun k2=>(CO (a:=C8 [45] t) fun k6=>?_).trans ?_).trans ?_
  · have key:=MP t 0 k6 (fun x9=>k6 (Am x9==45)) [45] (fun c r _=>by rw[AEx])
    simpa using key
  · unfold A9
    cases C8 [45] t<;>rfl
  try dsimp only
  refine(CO (a:=decide (DV (t.drop (A9 t))=0)) fun k11=>?_).trans ?_
  · obtain⟨u,hu⟩: ∃u,t.drop (A9 t)=u:=⟨_,rfl⟩
    have hl:=Cy hu h1
    rw[hu]
    cases u with
    | nil=>
      simp only[List.length_nil]at hl
      rw[if_pos (by simp;omega)];rfl
    | cons c r=>
      simp only[List.length_cons]at hl
      rw[if_neg (by simp;omega),head_drop hu,Option.bind_some,V3,Option.bind_some]
      congr 1
      cases hd:Du c
      · rw[decide_eq_true (Yg.2 (.inr ⟨c,r,rfl,hd⟩))];rfl
      · have: ¬DV (c::r)=0:=fun h=>by
          rcases Yg.1 h with h|⟨c',r',h,hd'⟩
          · cases h
          · cases h;rw[hd]at hd';cases hd'
        rw[decide_eq_false this];rfl
  try dsimp only
  by_cases hz:DV (t.drop (A9 t))=0
  · rw[if_pos (decide_eq_true hz)]
    unfold EE;rw[if_pos hz];rfl
  rw[if_neg (by simpa using hz)]
  have hnum:EE t=A9 t+DV (t.drop (A9 t))+Ef (t.drop (A9 t+DV (t.drop (A9 t))))+JS (t.drop (A9 t+DV (t.drop (A9 t))+Ef (t.drop (A9 t+DV (t.drop (A9 t)))))):=by
    unfold EE;rw[if_neg hz]
  refine(CO (a:=((A9 t+DV (t.drop (A9 t)):Nat):Int)) fun k18=>?_).trans ?_
  · obtain⟨u,hu⟩: ∃u,t.drop (A9 t)=u:=⟨_,rfl⟩
    cases u with
    |nil=>rw[hu]at hz;exact absurd rfl hz
    | cons c r=>
      rw[head_drop hu,Option.bind_some,AMZ,hsub,Option.bind_some,run]
      rw[hu]at h2⊢
      rw[show([48]:List UInt8).contains c=C8 [48] (c::r)from rfl]
      unfold DV at h2⊢
      by_cases h0:C8 [48] (c::r)=true
      · rw[if_pos h0]at h2
        rw[if_pos h0,if_pos h0,w1 _ (by omega)]
      · rw[if_neg h0]at h2
        rw[if_neg h0,if_neg h0,Option.bind_some,Ai (by omega)];congr 1
  try dsimp only
  rw[w1 _ (by omega),QE]
  generalize hi':A9 t+DV (t.drop (A9 t))=i at *
  have hil:i≤t.length:=by omega
  refine(CO (a:=((i+Ef (t.drop i):Nat):Int)) fun k26=>?_).trans ?_
  · rw[Option.bind_some,run,Option.bind_some]
    have hr:=LB (t.drop (i+1))
    rw[List.length_drop]at hr
    refine(CO (a:=C8 [46] (t.drop i)&&decide (0<EZ (t.drop (i+1)))) fun k34=>?_).trans ?_
    · refine(MP t i (fun b=>k34 (b&&decide (0<EZ (t.drop (i+1))))) _ [46] (fun c r _=>?_)).trans rfl
      rw[AMs]
      cases ([46]:List UInt8).contains c
      · rfl
      · rw[if_pos rfl];congr 1;rw[Bool.true_and];congr 1;simp only[eq_iff_iff];omega
    try dsimp only
    unfold Ef
    rw[List.drop_drop]
    by_cases hc:C8 [46] (t.drop i)=true∧0<EZ (t.drop (i+1))
    · rw[if_pos (by simpa using hc),if_pos hc,Ai (n:=1+_) (by omega),Ai (by omega)];congr 1
    · rw[if_neg (by simpa using hc),if_neg hc];rfl
  try dsimp only
  generalize hj:i+Ef (t.drop i)=j at *
  have hjl:j≤t.length:=by omega
  rw[w1 _ (by omega)]
  refine(CO (a:=((j+JS (t.drop j):Nat):Int)) fun k39=>?_).trans ?_
  · refine(CO (a:=C8 [101,69] (t.drop j)) fun k43=>MP t j k43 _ [101,69] (fun c r _=>by rw[Oq _ _ (by decide),Option.bind_some])).trans ?_
    try dsimp only
    by_cases he:C8 [101,69] (t.drop j)=true
    · rw [if_pos he]
      have hpos:=GZ he
      rw[List.length_drop]at hpos
      have hes:Hf (t.drop j)≤t.length-j-1:=by
        unfold Hf;split
        · rename_i h
          have:=GZ h
          simp only[List.length_drop]at this;omega
        · omega
      refine(CO (a:=((j+(1+Hf (t.drop j)):Nat):Int)) fun k50=>(CO (a:=C8 [43,45] (t.drop (j+1))) fun k54=>MP t (j+1) k54 _ [43,45] (fun c r _=>by rw[Oq _ _ (by decide),Option.bind_some])).trans ?_).trans ?_
      · try dsimp only
        unfold Hf
        rw[List.drop_drop]
        by_cases h:C8 [43,45] (t.drop (j+1))=true
        · rw[if_pos h,if_pos h,w1 _ (by omega)]
        · rw[if_neg h,if_neg h]
      try dsimp only
      rw[QE,Option.bind_some,run,Option.bind_some]
      have hr:=LB (t.drop (j+(1+Hf (t.drop j))))
      rw[List.length_drop]at hr
      have hex:JS (t.drop j)=if 0<EZ (t.drop (j+(1+Hf (t.drop j))))then 1+Hf (t.drop j)+EZ (t.drop (j+(1+Hf (t.drop j))))else 0:=by
        unfold JS
        rw[List.drop_drop]
        by_cases h:0<EZ (t.drop (j+(1+Hf (t.drop j))))
        · rw[if_pos ⟨he,h⟩,if_pos h]
        · rw[if_neg (fun k=>h k.2),if_neg h]
      rw[hex]
      by_cases h:0<EZ (t.drop (j+(1+Hf (t.drop j))))
      · rw[if_pos (by simp;omega),if_pos h,Ai (by omega)];congr 1;omega
      · rw[if_neg (by simp;omega),if_neg h];rfl
    · rw[if_neg he,show JS (t.drop j)=0 by unfold JS;rw[if_neg (fun k=>he k.1)]];rfl
  try dsimp only
  rw[hnum]
end
end Go.VM
namespace Go.VM
section
variable{N:Nat}
def Nf:List UInt8:=[123,125,91,93,58,44]
def isWord (w:List UInt8):Bool:=w==[116,114,117,101]||(w==[102,97,108,115,101]||w==[110,117,108,108])
def Sm (e:Int):ApiToken×Int×Int:=(ApiToken.mk 0 [] 0,0,e)
def Rw (N:Nat) (p:Nat) (t:List UInt8):ApiToken×Int×Int:=
  match t with
  |[]=>(ApiToken.mk 1 [] p,p,0)
  | c::r=>
    if Nf.contains c=true then(ApiToken.mk 2 [c] p,((p+1:Nat):Int),0)
    else if c.toNat=34 then
      if(GA N r (p+1) []).2.2=0 then(ApiToken.mk 3 (GA N r (p+1) []).1 p,((GA N r (p+1) []).2.1:Int),0)else Sm (GA N r (p+1) []).2.2
    else if(([45]:List UInt8).contains c||Du c)=true then
      if EE (c::r)=0 then Sm 130 else(ApiToken.mk 4 ((c::r).take (EE (c::r))) p,((p+EE (c::r):Nat):Int),0)
    else if isWord ((c::r).takeWhile Fw)=true then(ApiToken.mk 5 ((c::r).takeWhile Fw) p,((p+((c::r).takeWhile Fw).length:Nat):Int),0)
    else Sm 130
theorem Kq (N p:Nat) (c:UInt8) (r:List UInt8):Rw N p (c::r)=(
  if Nf.contains c=true then(ApiToken.mk 2 [c] p,((p+1:Nat):Int),0)
  else if c.toNat=34 then
    if(GA N r (p+1) []).2.2=0 then(ApiToken.mk 3 (GA N r (p+1) []).1 p,((GA N r (p+1) []).2.1:Int),0)else Sm (GA N r (p+1) []).2.2
  else if(([45]:List UInt8).contains c||Du c)=true then
    if EE (c::r)=0 then Sm 130 else(ApiToken.mk 4 ((c::r).take (EE (c::r))) p,((p+EE (c::r):Nat):Int),0)
  else if isWord ((c::r).takeWhile Fw)=true then(ApiToken.mk 5 ((c::r).takeWhile Fw) p,((p+((c::r).takeWhile Fw).length:Nat):Int),0)
  else Sm 130):=rfl
def Sy (N:Nat) (l:List UInt8) (i:Nat):ApiToken×Int×Int:=
  Rw N (i+((l.drop i).takeWhile wsB).length) (l.drop (i+((l.drop i).takeWhile wsB).length))
section
variable{l t:List UInt8}{i p:Nat}
theorem ACD (w:List UInt8) (k:Bool→Option (ApiToken×Int×Int)):(if(w==([116,114,117,101]:List UInt8))=true then k true else if(w==([102,97,108,115,101]:List UInt8))=true then k true else k (w==([110,117,108,108]:List UInt8)))=k (isWord w):=by
  unfold isWord
  cases w==([116,114,117,101]:List UInt8)<;>cases w==([102,97,108,115,101]:List UInt8)<;>rfl
theorem O6 (hb:l.length≤2^50) (k6:Int→Option (ApiToken×Int×Int)): ∀(t:List UInt8) (i k:Nat),l.drop i=t→i≤l.length→t.length<k→Eo N l k6 k (i:Int)=k6 ((i+(t.takeWhile wsB).length:Nat):Int)
  | [],i,k+1,ht,hi,_=>by
    have hl:=Cy ht hi
    simp only[List.length_nil]at hl
    have c: ¬(i:Int)<(l.length:Int):=by omega
    rw[Eo,AZ,if_neg (by simpa using c)]
    try dsimp only
    rw[if_neg (by decide)];rfl
  | c::t,i,k+1,ht,hi,hk=>by
    have hl:=Cy ht hi
    simp only[List.length_cons]at hl hk
    have c0:(i:Int)<(l.length:Int):=by omega
    rw[Eo,AZ,if_pos (decide_eq_true c0),head_drop ht,Option.bind_some,AKC,Option.bind_some,List.takeWhile_cons]
    cases wsB c
    · simp
    · dsimp only
      rw[if_pos rfl,if_pos rfl,Ai (by omega),show(i:Int)+1=((i+1:Nat):Int) by simp,O6 hb k6 t (i+1) k (by rw[←List.drop_drop,ht];rfl) (by omega) (by omega)]
      rw[List.length_cons];congr 2;omega
theorem QJ (hb:l.length≤2^50) (p:Nat) (k34:Int→Option (ApiToken×Int×Int)): ∀(t:List UInt8) (n k:Nat),l.drop (p+n)=t→p+n≤l.length→t.length<k→Es N l (p:Int) k34 k (n:Int)=k34 ((n+(t.takeWhile Fw).length:Nat):Int)
  | [],n,k+1,ht,hi,_=>by
    have hl:=Cy ht hi
    simp only[List.length_nil]at hl
    have c: ¬((p+n:Nat):Int)<(l.length:Int):=by omega
    rw[Es,AZ,Ai (n:=(p:Int)+(n:Int)) (by omega),show(p:Int)+(n:Int)=((p+n:Nat):Int) by simp,if_neg (by simpa using c)]
    try dsimp only
    rw[if_neg (by decide)];rfl
  | c::t,n,k+1,ht,hi,hk=>by
    have hl:=Cy ht hi
    simp only[List.length_cons]at hl hk
    have c0:((p+n:Nat):Int)<(l.length:Int):=by omega
    rw[Es,AZ,Ai (n:=(p:Int)+(n:Int)) (by omega),show(p:Int)+(n:Int)=((p+n:Nat):Int) by simp,if_pos (decide_eq_true c0),head_drop ht,Option.bind_some,ADN,Option.bind_some,List.takeWhile_cons]
    cases Fw c
    · simp
    · dsimp only
      rw[if_pos rfl,if_pos rfl,Ai (by omega),show(n:Int)+1=((n+1:Nat):Int) by simp,QJ hb p k34 t (n+1) k (by rw[←Nat.add_assoc,←List.drop_drop,ht];rfl) (by omega) (by omega)]
      rw[List.length_cons];congr 2;omega
theorem AFU (hb:l.length≤2^40) (hN:l.length+10≤N) (hi:i≤l.length):Jr N l (i:Int)=some (Sy N l i):=by
  obtain⟨t0,ht0⟩: ∃t0,l.drop i=t0:=⟨_,rfl⟩
  have hl0:=Cy ht0 hi
  have hw:=Nc wsB t0
  unfold Jr Sy
  have c1: ¬((i:Int)<0):=by omega
  have c2: ¬((i:Int)>(l.length:Int)):=by omega
  refine(CO (a:=false) fun k=>?_).trans ?_
  · rw[if_neg (by simp),decide_eq_false c2]
  try dsimp only
  rw[if_neg (by decide)]
  refine(CO (a:=((i+(t0.takeWhile wsB).length:Nat):Int)) fun k=>O6 (by omega) k t0 i N ht0 hi (by omega)).trans ?_
  rw[ht0]
  generalize hp:i+(t0.takeWhile wsB).length=p at *
  have hpl:p≤l.length:=by omega
  obtain⟨t,ht⟩: ∃t,l.drop p=t:=⟨_,rfl⟩
  have hl:=Cy ht hpl
  rw[ht]
  try dsimp only
  cases t with
  | nil=>
    simp only[List.length_nil]at hl
    rw[if_pos (by simp;omega)]
    have:(p:Int)=(l.length:Int):=by omega
    unfold Rw;rfl
  | cons c r=>
    simp only[List.length_cons]at hl
    rw[Kq,if_neg (by simp;omega),head_drop ht,Option.bind_some,Oq _ _ (by decide),Option.bind_some]
    have w1:wr .i64 ((p:Int)+1)=((p+1:Nat):Int):=by rw[Ai (by omega)];simp
    have hsub1:sub l (p:Int) ((p+1:Nat):Int)=some [c]:=by
      rw[FE l p (p+1) (by omega) (by omega),Nat.add_sub_cancel_left,ht];rfl
    rw[show([123,125,91,93,58,44]:List UInt8)=Nf from rfl]
    by_cases c3:Nf.contains c=true
    · rw[if_pos c3,if_pos c3,w1,hsub1,Option.bind_some]
    · rw [if_neg c3,if_neg c3,ALq]
      by_cases c4:c.toNat=34
      · rw[if_pos (decide_eq_true c4),if_pos c4,AJG (by omega) (by omega) (by omega),Option.bind_some]
        have hr:l.drop (p+1)=r:=by rw[←List.drop_drop,ht];rfl
        rw[hr]
        unfold outT
        by_cases c5:(GA N r (p+1) []).2.2=0
        · rw[if_pos c5,if_neg (by simp),if_pos c5]
        · rw[if_neg c5,if_pos (by simpa using c5),if_neg c5];rfl
      · rw [if_neg (by simpa using c4),if_neg c4]
        refine(CO (a:=(([45]:List UInt8).contains c||Du c)) fun k=>?_).trans ?_
        · rw[AEx,V3,Option.bind_some]
          cases ([45]:List UInt8).contains c<;>rfl
        try dsimp only
        have hsubl:sub l (p:Int) (l.length:Int)=some (c::r):=by
          rw[FE l p l.length (by omega) (by omega),ht,List.take_of_length_le (by simp only[List.length_cons];omega)]
        by_cases c5:(([45]:List UInt8).contains c||Du c)=true
        · rw[if_pos c5,if_pos c5,hsubl,Option.bind_some,MG _ (by simp only[List.length_cons];omega) (by simp only[List.length_cons];omega),Option.bind_some]
          have hn:=Vi (c::r)
          simp only[List.length_cons]at hn
          by_cases c6:EE (c::r)=0
          · rw[if_pos (by rw[c6];rfl),if_pos c6];rfl
          · rw[if_neg (by simp;omega),if_neg c6,Ai (by omega),show(p:Int)+((EE (c::r):Nat):Int)=((p+EE (c::r):Nat):Int) by simp]
            rw[FE l p _ (by omega) (by omega),Option.bind_some,Nat.add_sub_cancel_left,ht]
        · rw[if_neg c5,if_neg c5]
          have hwl:=Nc Fw (c::r)
          simp only[List.length_cons]at hwl
          refine(CO (a:=((((c::r).takeWhile Fw).length:Nat):Int)) fun k=>?_).trans ?_
          · have:=QJ (N:=N) (l:=l) (by omega) p k (c::r) 0 N (by rw[Nat.add_zero];exact ht) (by omega) (by simp only[List.length_cons];omega)
            rw[Nat.zero_add]at this
            exact this
          try dsimp only
          rw[Ai (by omega),show(p:Int)+((((c::r).takeWhile Fw).length:Nat):Int)=((p+((c::r).takeWhile Fw).length:Nat):Int) by simp]
          rw[TT Fw ht hpl,Option.bind_some]
          refine(CO (a:=isWord ((c::r).takeWhile Fw)) fun k=>ACD _ k).trans ?_
          try dsimp only
          by_cases c6:isWord ((c::r).takeWhile Fw)=true
          · rw[if_pos c6,if_pos c6]
          · rw[if_neg c6,if_neg c6];rfl
end
end
end Go.VM
