import Derived.Test.YtooeobhihpkicaaGreatDoorL3
set_option linter.unusedVariables false
set_option linter.unusedSimpArgs false
namespace Go.VM
section
variable{N:Nat}
theorem Oa: ∀l:List UInt8,List.map IQ (List.map Ap l)=l
  |[]=>rfl
  |c::l=>by rw[List.map_cons,List.map_cons,J8,Oa l]
def Ti:Nat→Nat→List UInt8→List UInt8
  |0,_,acc=>acc
  |k+1,n,acc=>if n / 10=0 then UInt8.ofNat (48+n % 10)::acc else Ti k (n / 10) (UInt8.ofNat (48+n % 10)::acc)
def fmtS (n:Nat):List UInt8:=Ti 20 n []
theorem V3: ∀(k n:Nat) (acc:List UInt8),(Ti k n acc).length≤acc.length+k
  |0,n,acc=>by simp[Ti]
  | k+1,n,acc=>by
    rw[Ti]
    split
    · simp<;>omega
    · have:=V3 k (n / 10) (UInt8.ofNat (48+n % 10)::acc)
      simp only[List.length_cons]at this;omega
theorem WR (n:Nat):(fmtS n).length≤20:=by have:=V3 20 n [];simpa[fmtS]using this
theorem AIR (n:Nat):wr .u64 ((n:Int).tdiv 10)=if n<2^64 then((n / 10:Nat):Int)else wr .u64 ((n:Int).tdiv 10):=by
  split
  · rw[Int.tdiv_eq_ediv_of_nonneg (by omega),Kw (by omega)];simp
  · rfl
theorem AII{n:Nat} (h:n<2^64):wr .u64 ((n:Int).tdiv 10)=((n / 10:Nat):Int):=by rw[AIR,if_pos h]
theorem AIM{n:Nat}:wr .u64 (48+(n:Int).tmod 10)=((48+n % 10:Nat):Int):=by
  rw[Int.tmod_eq_emod_of_nonneg (by omega),Kw (by omega)];simp
theorem Mg: ∀(k n:Nat) (acc:List UInt8),n<10^k→n<2^64→acc.length+k≤1000→ ∀m,k≤m→0<k→EJ N m (n:Int) acc=some (Ti k n acc)
  |0,n,acc,h,h2,ha,m,hm,hk=>by omega
  | k+1,n,acc,h,h2,ha,m+1,hm,hk=>by
    rw[EJ,AII h2,AIM,Ti]
    rw[Ab (by unfold Bb;simp<;>omega)]
    have e:(List.map IQ [wr .u8 ((48+n % 10:Nat):Int)]++acc)=UInt8.ofNat (48+n % 10)::acc:=by
      rw[Yc,Nat.mod_eq_of_lt (show 48+n % 10<256 by omega)];rfl
    rw[e]
    by_cases c:n / 10=0
    · rw[if_pos (by rw[c];rfl),if_pos c]
    · have c': ¬((((n / 10:Nat):Int))==0)=true:=by simp<;>omega
      rw[if_neg c',if_neg c]
      have hk2:0<k:=by
        cases k with
        |zero=>simp at h;omega
        |succ=>omega
      exact Mg k (n / 10) _ (by rw[Nat.pow_succ]at h;omega) (by omega) (by simp<;>omega) m (by omega) hk2
theorem Pp (n:Nat) (h:n<2^64) (hN:20≤N):Gh N (n:Int)=some (fmtS n):=by
  unfold Gh fmtS
  exact Mg 20 n [] (by omega) h (by simp) N hN (by omega)
theorem WP (a:Nat) (x:Int) (acc:List Int):(List.replicate (a+1) 0++acc).set a x=List.replicate a 0++x::acc:=by
  rw[List.replicate_succ',List.append_assoc]
  simp
theorem NG (k2:Int×Int×List Int→Option (List UInt8)) (R:List UInt8→Option (List UInt8)) (hk: ∀(n a:Nat) (acc:List UInt8),n<10→a≤19→acc.length+a=19→k2 ((n:Int),(a:Int),List.replicate (a+1) 0++acc.map Ap)=R (UInt8.ofNat (48+n)::acc)):
    ∀(j n a:Nat) (acc:List UInt8),n<10^(j+1)→n<2^64→j≤a→a≤19→acc.length+a=19→ ∀m,j<m→Du N k2 m (n:Int) (a:Int) (List.replicate (a+1) 0++acc.map Ap)=R (Ti (j+1) n acc)
  |j,n,a,acc,h,h2,hj,ha,hl,0,hm=>by omega
  | j,n,a,acc,h,h2,hj,ha,hl,m+1,hm=>by
    rw[Du,Ti]
    by_cases c:n / 10=0
    · have c': ¬(n:Int)≥10:=by omega
      rw[if_neg (by simpa using c'),if_pos c,Nat.mod_eq_of_lt (by omega)]
      exact hk n a acc (by omega) ha hl
    · have c':(n:Int)≥10:=by omega
      rw[if_pos (decide_eq_true c'),if_neg c]
      obtain⟨j,rfl⟩: ∃i,j=i+1:=⟨j-1,by
        cases j with
        |zero=>simp at h;omega
        |succ=>omega⟩
      obtain⟨a,rfl⟩: ∃i,a=i+1:=⟨a-1,by omega⟩
      rw[Ab (by omega),Ab (by simp<;>omega),AII h2,AIM,Yc,Nat.mod_eq_of_lt (show 48+n % 10<256 by omega),A8 (by omega)]
      rw[show((a+1:Nat):Int)-1=(a:Int) by simp,Int.toNat_natCast,WP]
      have e:List.replicate (a+1) 0++((48+n % 10:Nat):Int)::List.map Ap acc=List.replicate (a+1) 0++List.map Ap (UInt8.ofNat (48+n % 10)::acc):=by
        rw[List.map_cons,NE,toNat_ofNat (by omega)]
      rw[e]
      exact NG k2 R hk j (n / 10) a _ (by rw[Nat.pow_succ]at h;omega) (by omega) (by omega) (by omega) (by simp<;>omega) m (by omega)
theorem Pj (n:Nat) (h:n<2^64) (hN:20≤N):F6 N (n:Int)=some (fmtS n):=by
  unfold F6 fmtS
  rw[Am]
  refine NG (N:=N) _ some (fun n a acc hn ha hl=>?_) 19 n 19 [] (by omega) h (by omega) (by omega) rfl N (by omega)
  have w:wr .u8 (wr .u64 (48+(n:Int)))=((48+n:Nat):Int):=by
    rw[Kw (by omega),show(48:Int)+(n:Int)=((48+n:Nat):Int) by simp,Yc,Nat.mod_eq_of_lt (by omega)]
  simp only[Int.toNat_natCast,w]
  rw[WP]
  rw[Ab (by omega),Ab (by simp<;>omega),Ab (by omega),Ab (by unfold Bb;simp<;>omega)]
  congr 1
  rw[List.drop_append,List.drop_of_length_le (by simp),List.length_replicate,Nat.sub_self,List.drop_zero,List.nil_append,List.take_of_length_le (by simp<;>omega),List.map_cons,Oa]
  rfl
end
end Go.VM
namespace Go.VM
structure NumP (s sg W F FR P EX:List UInt8):Prop where
  eq:s=sg++(W++(FR++EX))
  sg:sg=[]∨sg=[45]
  Wd:W.all DZ=true
  Wn:W≠ []
  fr:(FR=[]∧F=[])∨FR=46::F
  Fd:F.all DZ=true
  ex:(EX=[]∧P=[])∨EX=101::P∨EX=69::P
  pw:P=[]∨ ∃sn D,P=sn++D∧(sn=[]∨sn=[43]∨sn=[45])∧D≠ []∧D.all DZ=true
theorem Ou (t:List UInt8):(t.take (EA t)).all DZ=true:=by
  unfold EA
  rw[MP]
  induction t with
  |nil=>rfl
  | cons c t ih=>
    rw[List.takeWhile_cons]
    cases h:DZ c
    · rfl
    · simp only[if_true,List.all_cons,h,Bool.true_and];exact ih
theorem Pf{k:UInt8}{t:List UInt8} (h:Cq [k] t=true): ∃r,t=k::r:=by
  cases t with
  |nil=>cases h
  | cons c r=>
    have:c=k:=by simpa[Cq]using h
    exact⟨r,by rw[this]⟩
theorem Xm{a b:UInt8}{t:List UInt8} (h:Cq [a,b] t=true): ∃r,t=a::r∨t=b::r:=by
  cases t with
  |nil=>cases h
  | cons c r=>
    have:c=a∨c=b:=by simpa[Cq]using h
    rcases this with rfl|rfl
    · exact⟨r,.inl rfl⟩
    · exact⟨r,.inr rfl⟩
theorem AAf (t:List UInt8):t.take (A7 t)=[]∨t.take (A7 t)=[45]:=by
  unfold A7
  by_cases h:Cq [45] t=true
  · rw[if_pos h]
    obtain⟨r,rfl⟩:=Pf h
    exact .inr rfl
  · rw[if_neg h];exact .inl (by simp)
theorem AFj (t:List UInt8) (h:C8 t≠0):(t.take (C8 t)).all DZ=true∧t.take (C8 t)≠ []:=by
  have hle:=Mk t
  refine⟨?_,fun e=>?_⟩
  · unfold C8
    by_cases h:Cq [48] t=true
    · rw[if_pos h]
      obtain⟨r,rfl⟩:=Pf h
      rfl
    · rw[if_neg h];exact Ou t
  · have:=congrArg List.length e
    rw[List.length_take,List.length_nil]at this
    omega
theorem AAq (t:List UInt8): ∃F,((t.take (EK t)=[]∧F=[])∨t.take (EK t)=46::F)∧F.all DZ=true:=by
  unfold EK
  by_cases h:Cq [46] t=true∧0<EA (t.drop 1)
  · rw[if_pos h]
    obtain⟨r,rfl⟩:=Pf h.1
    refine⟨r.take (EA r),.inr ?_,Ou r⟩
    rw[Nat.add_comm];rfl
  · rw[if_neg h];exact⟨[],.inl ⟨by simp,rfl⟩,rfl⟩
theorem ADG (t:List UInt8): ∃P,((t.take (Io t)=[]∧P=[])∨t.take (Io t)=101::P∨t.take (Io t)=69::P)∧(P=[]∨ ∃sn D,P=sn++D∧(sn=[]∨sn=[43]∨sn=[45])∧D≠ []∧D.all DZ=true):=by
  unfold Io
  by_cases h:Cq [101,69] t=true∧0<EA (t.drop (1+Gr t))
  · rw [if_pos h]
    have key: ∀(c:UInt8) (r:List UInt8),t=c::r→ ∃P,t.take (1+Gr t+EA (t.drop (1+Gr t)))=c::P∧(P=[]∨ ∃sn D,P=sn++D∧(sn=[]∨sn=[43]∨sn=[45])∧D≠ []∧D.all DZ=true):=by
      rintro c r rfl
      have hr:=h.2
      have hes:Gr (c::r)=if Cq [43,45] r=true then 1 else 0:=rfl
      by_cases k:Cq [43,45] r=true
      · rw[if_pos k]at hes
        rw[hes]at hr⊢
        obtain⟨d,q,rfl,hd⟩: ∃d q,r=d::q∧(d=43∨d=45):=by
          obtain⟨q,e|e⟩:=Xm k
          · exact⟨_,q,e,.inl rfl⟩
          · exact⟨_,q,e,.inr rfl⟩
        have e:(c::d::q).drop (1+1)=q:=rfl
        rw[e]at hr⊢
        refine⟨d::q.take (EA q),?_,.inr ⟨[d],q.take (EA q),rfl,?_,fun e=>?_,Ou q⟩⟩
        · rw[show 1+1+EA q=EA q+1+1 by omega];rfl
        · rcases hd with rfl|rfl
          · exact .inr (.inl rfl)
          · exact .inr (.inr rfl)
        · have:=congrArg List.length e
          have h2:=Kb q
          rw[List.length_take,List.length_nil]at this;omega
      · rw[if_neg k]at hes
        rw[hes]at hr⊢
        have e:(c::r).drop (1+0)=r:=rfl
        rw[e]at hr⊢
        refine⟨r.take (EA r),?_,.inr ⟨[],r.take (EA r),rfl,.inl rfl,fun e=>?_,Ou r⟩⟩
        · rw[show 1+0+EA r=EA r+1 by omega];rfl
        · have:=congrArg List.length e
          have h2:=Kb r
          rw[List.length_take,List.length_nil]at this;omega
    obtain⟨r,e|e⟩:=Xm h.1
    · obtain⟨P,h1,h2⟩:=key _ _ e
      exact⟨P,.inr (.inl h1),h2⟩
    · obtain⟨P,h1,h2⟩:=key _ _ e
      exact⟨P,.inr (.inr h1),h2⟩
  · rw[if_neg h];exact⟨[],.inl ⟨by simp,rfl⟩,.inl rfl⟩
theorem AIU (s:List UInt8) (a b c:Nat):s=s.take a++((s.drop a).take b++((s.drop (a+b)).take c++s.drop (a+b+c))):=by
  rw[show s.drop (a+b+c)=(s.drop (a+b)).drop c by rw[List.drop_drop],List.take_append_drop,show s.drop (a+b)=(s.drop a).drop b by rw[List.drop_drop],List.take_append_drop,List.take_append_drop]
theorem RB{s:List UInt8} (h0:s≠ []) (h:EE s=s.length): ∃sg W F FR P EX,NumP s sg W F FR P EX:=by
  have hpos:s.length≠0:=fun e=>h0 (List.length_eq_zero_iff.1 e)
  have hz:C8 (s.drop (A7 s))≠0:=by
    intro hz
    unfold EE at h;rw[if_pos hz]at h;omega
  have hnum:EE s=A7 s+C8 (s.drop (A7 s))+EK (s.drop (A7 s+C8 (s.drop (A7 s))))+Io (s.drop (A7 s+C8 (s.drop (A7 s))+EK (s.drop (A7 s+C8 (s.drop (A7 s)))))):=by
    unfold EE;rw[if_neg hz]
  obtain⟨w1,w2⟩:=AFj _ hz
  obtain⟨F,f1,f2⟩:=AAq (s.drop (A7 s+C8 (s.drop (A7 s))))
  obtain⟨P,e1,e2⟩:=ADG (s.drop (A7 s+C8 (s.drop (A7 s))+EK (s.drop (A7 s+C8 (s.drop (A7 s))))))
  refine⟨_,_,F,_,P,_,⟨?_,AAf s,w1,w2,f1,f2,e1,e2⟩⟩
  rw[List.take_of_length_le (l:=s.drop (A7 s+C8 (s.drop (A7 s))+EK (s.drop (A7 s+C8 (s.drop (A7 s)))))) (by rw[List.length_drop];omega)]
  exact AIU _ _ _ _
theorem AIh{c k:UInt8} (h:DZ c=true) (hk:DZ k=false):c≠k:=fun e=>by subst e;rw[h]at hk;cases hk
theorem Ov{k:UInt8} (hk:DZ k=false): ∀ {l:List UInt8},l.all DZ=true→l.contains k=false
  |[],_=>rfl
  | c::l,h=>by
    simp only[List.all_cons,Bool.and_eq_true]at h
    rw[List.contains_cons,Ov hk h.2,Bool.or_false]
    have:=AIh h.1 hk
    simpa using fun e:k=c=>this e.symm
end Go.VM
namespace Go.VM
section
variable{N:Nat}
def G7:Nat→List UInt8→Nat
  |n,[]=>n
  |n,c::l=>G7 (n * 10+H7 c.toNat) l
theorem Mt: ∀(l:List UInt8) (n:Nat),n≤G7 n l
  |[],n=>by rw[G7];exact Nat.le_refl _
  | c::l,n=>by
    have:=Mt l (n * 10+H7 c.toNat)
    rw[G7];omega
theorem Je{c:UInt8} (h:DZ c=true):48≤c.toNat∧c.toNat≤57:=by
  simpa[DZ]using h
theorem Ow{c:UInt8} (h:DZ c=true):TP c=true∧H7 c.toNat=c.toNat-48:=by
  have:=Je h
  refine⟨?_,?_⟩
  · simp only[TP,AA5,Bool.or_eq_true,Bool.and_eq_true,decide_eq_true_eq];omega
  · unfold H7;rw[if_pos this.2]
theorem AIP (k2:Unit→Option (Int×Int)): ∀l:List UInt8,BI N k2 l=if l.all DZ=true then k2 ()else some (0,1)
  |[]=>by rw[BI];rfl
  | c::l=>by
    rw[BI,AAc,Option.bind_some,AIP k2 l]
    cases h:DZ c<;>simp[h]
theorem AIL{m:Nat} (hm:m≤2^59) (k9:Int→Option (Int×Int)): ∀(l:List UInt8) (n:Nat),l.all DZ=true→n≤m→BJ N 10 (m:Int) k9 l (n:Int)=if G7 n l≤m then k9 ((G7 n l:Nat):Int)else some (0,4)
  |[],n,_,hn=>by rw[BJ,G7,if_pos hn]
  | c::l,n,h,hn=>by
    simp only[List.all_cons,Bool.and_eq_true]at h
    have hd:H7 c.toNat≤9:=by have:=Je h.1;rw[(Ow h.1).2];omega
    obtain⟨hx,hv⟩:=Ow h.1
    rw[BJ,AHU c hx,Option.bind_some,Am,Ab (by decide)]
    have w1:wr .u64 ((n:Int) * 10)=((n * 10:Nat):Int):=by rw[Kw (by omega)];simp
    have w2:wr .u64 (((n * 10:Nat):Int)+((H7 c.toNat:Nat):Int))=((n * 10+H7 c.toNat:Nat):Int):=by rw[Kw (by omega)];simp
    have w3:wr .u64 (18446744073709551615-((H7 c.toNat:Nat):Int))=18446744073709551615-((H7 c.toNat:Nat):Int):=Kw (by omega)
    rw[w1,w2,w3,Int.tdiv_eq_ediv_of_nonneg (by omega),Kw (by omega)]
    have c1: ¬((n:Int)>(18446744073709551615-((H7 c.toNat:Nat):Int)) / 10):=by omega
    rw[if_neg (by simpa using c1),G7]
    by_cases c2:n * 10+H7 c.toNat≤m
    · have c3: ¬(((n * 10+H7 c.toNat:Nat):Int)>(m:Int)):=by omega
      rw[decide_eq_false c3]
      simp only[Bool.false_eq_true,if_false]
      exact AIL hm k9 l _ h.2 c2
    · have c3:(((n * 10+H7 c.toNat:Nat):Int)>(m:Int)):=by omega
      have:=Mt l (n * 10+H7 c.toNat)
      rw[decide_eq_true c3,if_neg (by omega)];rfl
theorem ACx{m:Nat} (hm:m≤2^59) (l:List UInt8) (hb:l.length≤2^60):Ho N l (m:Int)=some (if l=[]then(0,3)else if l.all DZ=true then(if G7 0 l≤m then(((G7 0 l:Nat):Int),0)else(0,4))else(0,1)):=by
  unfold Ho DX
  by_cases h:l=[]
  · subst h;rfl
  · rw[if_neg (by simpa using h),if_neg h,Am,Ab (by unfold Bb;omega),AIP]
    by_cases h1:l.all DZ=true
    · rw[if_pos h1,if_pos h1,Am,Ab (by unfold Bb;omega),show(0:Int)=((0:Nat):Int)from rfl,AIL hm _ l 0 h1 (by omega)]
      split<;>rfl
    · rw[if_neg h1,if_neg h1];rfl
def JQ (B:Nat) (P:List UInt8):Int:=if Cq [45] P=true then-((min (G7 0 (P.dropWhile ([43,45]:List UInt8).contains)) B:Nat):Int)else((min (G7 0 (P.dropWhile ([43,45]:List UInt8).contains)) B:Nat):Int)
def AAU (P:List UInt8):Prop:=P=[]∨ ∃sn D,P=sn++D∧(sn=[]∨sn=[43]∨sn=[45])∧D≠ []∧D.all DZ=true
theorem AAH{c:UInt8} (h:DZ c=true):([43,45]:List UInt8).contains c=false:=by
  have:=Hd (f:=fun n=>if(decide (48≤n)&&decide (n≤57))=true then([43,45]:List UInt8).contains (UInt8.ofNat n)else false) (g:=fun _=>false) (by kernel_rfl) c
  simp only[UInt8.ofNat_toNat,show(decide (48≤c.toNat)&&decide (c.toNat≤57))=true from h,if_true]at this
  exact this
theorem NJ{D:List UInt8} (h:D.all DZ=true):D.dropWhile ([43,45]:List UInt8).contains=D:=by
  cases D with
  |nil=>rfl
  | cons c D=>
    simp only[List.all_cons,Bool.and_eq_true]at h
    rw[List.dropWhile_cons,AAH h.1];rfl
theorem Rq{P:List UInt8} (h:AAU P):(P.dropWhile ([43,45]:List UInt8).contains).all DZ=true∧(P.dropWhile ([43,45]:List UInt8).contains=[]→P=[]):=by
  rcases h with rfl|⟨sn,D,rfl,hs,hD,hd⟩
  · exact⟨rfl,fun _=>rfl⟩
  · have:(sn++D).dropWhile ([43,45]:List UInt8).contains=D:=by
      rcases hs with rfl|rfl|rfl
      · exact NJ hd
      · show(43::D).dropWhile _=D
        rw[List.dropWhile_cons,show([43,45]:List UInt8).contains 43=true from rfl,if_pos rfl];exact NJ hd
      · show(45::D).dropWhile _=D
        rw[List.dropWhile_cons,show([43,45]:List UInt8).contains 45=true from rfl,if_pos rfl];exact NJ hd
    rw[this]
    exact⟨hd,fun e=>absurd e hD⟩
theorem AIH{P:List UInt8} (h:AAU P) (hb:P.length≤2^60) (hN:P.length<N):GN N P=some (JQ (2^40) P):=by
  obtain⟨h1,h2⟩:=Rq h
  unfold GN
  rw[ADA P [43,45] (by simp) (by simp) (by decide) hN,Option.bind_some]
  have hl:=(List.dropWhile_sublist ([43,45]:List UInt8).contains (l:=P)).length_le
  unfold JQ
  generalize hD:P.dropWhile ([43,45]:List UInt8).contains=D at *
  rw[show(1099511627776:Int)=((2^40:Nat):Int)from rfl,ACx (by decide) D (by omega),Option.bind_some]
  by_cases he:D=[]
  · rw[if_pos he]
    have hP:=h2 he
    subst hP;subst he
    rfl
  · rw[if_neg he,if_pos h1]
    have key: ∀v:Nat,v≤2^40→(Option.bind (strings_HasPrefix N P [45]) fun y9=>if y9=true then some (wr .i64 (0-wr .i64 (v:Int)))else some (wr .i64 (v:Int)))=some (if Cq [45] P=true then-(v:Int)else(v:Int)):=by
      intro v hv
      rw[AGZ,Option.bind_some,A8 (n:=(v:Int)) (by omega),A8 (n:=0-(v:Int)) (by omega)]
      split<;>simp
    rw[Am]
    by_cases hv:G7 0 D≤2^40
    · rw[if_pos hv,Nat.min_eq_left hv]
      exact key _ hv
    · rw[if_neg hv,Nat.min_eq_right (by omega)]
      exact key _ (Nat.le_refl _)
theorem Nr (k19:Int→Option Int): ∀(l:List UInt8) (n:Nat),l.all DZ=true→n≤2^30→Ch N k19 l (n:Int)=k19 ((min (G7 n l) (2^30):Nat):Int)
  |[],n,_,hn=>by rw[Ch,G7,Nat.min_eq_left hn]
  | c::l,n,h,hn=>by
    simp only[List.all_cons,Bool.and_eq_true]at h
    have hd:=Je h.1
    rw[Ch,G7]
    have w0:wr .u8 (Ap c-48)=((H7 c.toNat:Nat):Int):=by rw[AIO (by simp only[Ap];omega)];rw[(Ow h.1).2];simp only[Ap];omega
    have hd9:H7 c.toNat≤9:=by rw[(Ow h.1).2];omega
    rw[w0,A8 (n:=(n:Int) * 10) (by omega),A8 (n:=((H7 c.toNat:Nat):Int)) (by omega),A8 (by omega)]
    have e:(n:Int) * 10+((H7 c.toNat:Nat):Int)=((n * 10+H7 c.toNat:Nat):Int):=by simp
    rw[e]
    have hge:=Mt l (n * 10+H7 c.toNat)
    by_cases c1:(1073741824:Int)<((n * 10+H7 c.toNat:Nat):Int)
    · rw[if_pos c1,show(1073741824:Int)=((2^30:Nat):Int)from rfl,Nr k19 l (2^30) h.2 (Nat.le_refl _)]
      have:=Mt l (2^30)
      rw[Nat.min_eq_right this,Nat.min_eq_right (by omega)]
    · rw[if_neg c1,Nr k19 l _ h.2 (by omega)]
theorem AGg{P:List UInt8} (h:AAU P) (hb:P.length≤2^60):Ga N P=some (JQ (2^30) P):=by
  obtain⟨h1,h2⟩:=Rq h
  unfold Ga
  refine(Ca (a:=Cq [45] P) fun k2=>?_).trans ?_
  · cases P with
    |nil=>rfl
    |cons c P=>rw[if_neg (by simp),show idx (c::P) 0=some c from rfl,Option.bind_some,AHL];rfl
  try dsimp only
  refine(Ca (a:=P.dropWhile ([43,45]:List UInt8).contains) fun k7=>(Ca (a:=Cq [43,45] P) fun k11=>?_).trans ?_).trans ?_
  · cases P with
    |nil=>rfl
    | cons c P=>
      show(if(c::P==([]:List UInt8))=true then k11 false else Option.bind (idx (c::P) 0) fun x14=>Option.bind (GR N (Ap x14) [43,45]) fun y15=>k11 y15)=_
      rw[if_neg (by simp),show idx (c::P) 0=some c from rfl,Option.bind_some,Tv _ _ (by decide),Option.bind_some];rfl
  · try dsimp only
    rcases h with rfl|⟨sn,D,rfl,hs,hD,hd⟩
    · rfl
    · have hdd:=NJ hd
      rcases hs with rfl|rfl|rfl
      · cases D with
        |nil=>exact absurd rfl hD
        | cons c D=>
          simp only[List.all_cons,Bool.and_eq_true]at hd
          rw[List.nil_append,hdd,if_neg (by show¬([43,45]:List UInt8).contains c=true;rw[AAH hd.1];simp)]
      · have e:([43]++D).dropWhile ([43,45]:List UInt8).contains=D:=by
          show(43::D).dropWhile _=D
          rw[List.dropWhile_cons,show([43,45]:List UInt8).contains 43=true from rfl,if_pos rfl];exact hdd
        rw[e,if_pos (by rfl)]
        exact(congrArg (fun x=>Option.bind x k7) (JK 43 D)).trans rfl
      · have e:([45]++D).dropWhile ([43,45]:List UInt8).contains=D:=by
          show(45::D).dropWhile _=D
          rw[List.dropWhile_cons,show([43,45]:List UInt8).contains 45=true from rfl,if_pos rfl];exact hdd
        rw[e,if_pos (by rfl)]
        exact(congrArg (fun x=>Option.bind x k7) (JK 45 D)).trans rfl
  try dsimp only
  have hl:=(List.dropWhile_sublist ([43,45]:List UInt8).contains (l:=P)).length_le
  unfold JQ
  generalize hD:P.dropWhile ([43,45]:List UInt8).contains=D at *
  rw[Am,Ab (by unfold Bb;omega),show(0:Int)=((0:Nat):Int)from rfl,Nr _ D 0 h1 (by omega)]
  have:min (G7 0 D) (2^30)≤2^30:=Nat.min_le_right _ _
  rw[A8 (by omega)]
  split<;>simp
def AIg (y:Int):List UInt8:=if y<0 then [101,45]++fmtS (-y).toNat else if y>0 then [101]++fmtS y.toNat else []
def JJ (sg m:List UInt8) (x:Int):List UInt8×Int:=
  let m1:=m.dropWhile (· ==48)
  let sh:=IA (· ==48) m1
  if sh=[]then([48],0)
  else if sh.length>40∨x+m1.length-sh.length< -400∨x+m1.length-sh.length>400 then([],144)
  else(sg++sh++AIg (x+m1.length-sh.length),0)
theorem Om{y:Int} (h:0≤y) (h2:y≤2^60):wr .u64 y=((y.toNat:Nat):Int):=by rw[Kw (by omega)];omega
theorem Ur{l:List UInt8} (h:l.all DZ=true):l.map J4=l:=by
  induction l with
  |nil=>rfl
  | cons c l ih=>
    simp only[List.all_cons,Bool.and_eq_true]at h
    have:=Je h.1
    rw[List.map_cons,ih h.2]
    congr 1
    unfold J4 AHX;rw[if_neg (by omega)];simp
theorem SN{c:UInt8}{a b:List UInt8} (h:a.contains c=false):QY c (a++c::b)=(a,b,true):=by
  have h1: ∀a:List UInt8,a.contains c=false→(a++c::b).takeWhile (· !=c)=a∧(a++c::b).dropWhile (· !=c)=c::b:=by
    intro a
    induction a with
    |nil=>intro _;simp
    | cons x a ih=>
      intro h
      rw[List.contains_cons,Bool.or_eq_false_iff]at h
      have hx:(x !=c)=true:=by
        have:c≠x:=by simpa using h.1
        simpa using fun e:x=c=>this e.symm
      obtain⟨i1,i2⟩:=ih h.2
      rw[List.cons_append,List.takeWhile_cons,List.dropWhile_cons,hx,i1,i2]
      exact⟨rfl,rfl⟩
  unfold QY
  rw[if_pos (by simp),(h1 a h).1,(h1 a h).2];rfl
theorem AAN{c:UInt8}{a:List UInt8} (h:a.contains c=false):QY c a=(a,[],false):=by
  unfold QY;rw[if_neg (by rw[h];simp)]
theorem Td{c:UInt8}{a b:List UInt8}:(a++b).contains c=(a.contains c||b.contains c):=by
  simp[List.contains_eq_any_beq,List.any_append]
theorem AAC{P:List UInt8} (h:AAU P):P.map J4=P:=by
  rcases h with rfl|⟨sn,D,rfl,hs,hD,hd⟩
  · rfl
  · rw[List.map_append,Ur hd]
    rcases hs with rfl|rfl|rfl<;>rfl
section
variable{s sg W F FR P EX:List UInt8}
theorem NumP.len (h:NumP s sg W F FR P EX):s.length=sg.length+(W.length+(FR.length+EX.length))∧F.length≤FR.length∧P.length≤EX.length:=by
  refine⟨by rw[h.eq];simp,?_,?_⟩
  · rcases h.fr with⟨e1,e2⟩|e
    · rw[e2];simp
    · rw[e];simp
  · rcases h.ex with⟨e1,e2⟩|e|e
    · rw[e2];simp
    · rw[e];simp
    · rw[e];simp
theorem NumP.not_e (h:NumP s sg W F FR P EX) (k:UInt8) (hk:DZ k=false) (h46:k≠46):(W++FR).contains k=false:=by
  rw[Td,Ov hk h.Wd,Bool.false_or]
  rcases h.fr with⟨e1,e2⟩|e
  · rw[e1];rfl
  · rw[e,List.contains_cons,Ov hk h.Fd,Bool.or_false]
    simpa using h46
theorem AHy (h:NumP s sg W F FR P EX) (hn:EE s=s.length) (hb:s.length≤2^48) (hN:s.length+30<N):Dy N s=some (JJ sg (W++F) (JQ (2^40) P-F.length)):=by
  obtain⟨l1,l2,l3⟩:=h.len
  have hne:s≠ []:=by
    rw[h.eq]
    have:=h.Wn
    intro e
    have:=List.append_eq_nil_iff.1 e
    have:=List.append_eq_nil_iff.1 this.2
    exact h.Wn this.1
  have hpos:s.length≠0:=fun e=>hne (List.length_eq_zero_iff.1 e)
  unfold Dy
  have hp:=Py (N:=N) (l:=s) (t:=s) (i:=0) (by simp) (by omega) (by omega)
  rw[if_neg (by rw[hn];exact hpos)]at hp
  have hp':Cc N (TokenReader.mk s 0)=some (s.take (EE s),true,(⟨s,((0+EE s:Nat):Int)⟩:TokenReader)):=hp
  rw[hp',Option.bind_some]
  refine(Ca (a:=false) fun k4=>?_).trans ?_
  · rw[if_pos rfl,hn,List.take_of_length_le (Nat.le_refl _)];simp
  try dsimp only
  rw[if_neg (by decide)]
  have hhead: ∀k7:List UInt8×List UInt8→Option (List UInt8×Int),(Option.bind (idx s 0) fun x11=>if(Ap x11==45)=true then Option.bind (sub s 1 (s.length:Int)) fun x12=>k7 ([45],x12)else k7 ([],s))=k7 (sg,W++(FR++EX)):=by
    intro k7
    rcases h.sg with e|e
    · have hs:s=W++(FR++EX):=by rw[h.eq,e];rfl
      cases hW:W with
      |nil=>exact absurd hW h.Wn
      | cons c W'=>
        have hc:DZ c=true:=by
          have:=h.Wd
          rw[hW,List.all_cons,Bool.and_eq_true]at this
          exact this.1
        have hs2:s=c::(W'++(FR++EX)):=by rw[hs,hW];rfl
        rw[hs2,show idx (c::(W'++(FR++EX))) 0=some c from rfl,Option.bind_some,AHL,Md]
        have:=Je hc
        have: ¬c.toNat=(45:UInt8).toNat:=by show¬c.toNat=45;omega
        rw[if_neg (by simpa using this),e];rfl
    · have hs2:s=45::(W++(FR++EX)):=by rw[h.eq,e];rfl
      rw[hs2,show idx (45::(W++(FR++EX))) 0=some 45 from rfl,Option.bind_some,if_pos (by rfl),JK,Option.bind_some,e]
  refine(Ca (a:=(sg,W++(FR++EX))) fun k8=>hhead k8).trans ?_
  try dsimp only
  rw[lower_eq _ (by simp;omega),Option.bind_some]
  have hWF:(W++FR).map J4=W++FR:=by
    rw[List.map_append,Ur h.Wd]
    rcases h.fr with⟨e1,e2⟩|e
    · rw[e1];rfl
    · rw[e,List.map_cons,Ur h.Fd];rfl
  have hlow:QY 101 ((W++(FR++EX)).map J4)=(W++FR,P,(QY 101 ((W++(FR++EX)).map J4)).2.2):=by
    rw[←List.append_assoc,List.map_append,hWF]
    have hc:=h.not_e 101 (by decide) (by decide)
    rcases h.ex with⟨e1,e2⟩|e|e
    · rw[e1,e2,List.map_nil,List.append_nil,AAN hc]
    · rw[e,List.map_cons,AAC h.pw,show J4 101=101 from rfl,SN hc]
    · rw[e,List.map_cons,AAC h.pw,show J4 69=101 from rfl,SN hc]
  rw[AEj 101 _ (by simp;omega),Option.bind_some,hlow]
  try dsimp only
  have hcut2:QY 46 (W++FR)=(W,F,(QY 46 (W++FR)).2.2):=by
    have hc:=Ov (k:=46) (by decide) h.Wd
    rcases h.fr with⟨e1,e2⟩|e
    · rw[e1,e2,List.append_nil,AAN hc]
    · rw[e,SN hc]
  rw[AEj 46 _ (by simp;omega),Option.bind_some,hcut2]
  try dsimp only
  rw[Ab (by unfold Bb;omega),AEW 48 (W++F) (by decide) (by simp;omega),Option.bind_some]
  have hml:=(List.dropWhile_sublist (fun x:UInt8=>x==48) (l:=W++F)).length_le
  rw[List.length_append]at hml
  have htl:=QW (fun x:UInt8=>x==48) ((W++F).dropWhile (fun x:UInt8=>x==48))
  rw[AD1 48 _ (by decide) (by omega) (by omega),Option.bind_some]
  unfold JJ
  dsimp only
  generalize hm1:(W++F).dropWhile (fun x:UInt8=>x==48)=m1 at *
  generalize hsh:IA (fun x:UInt8=>x==48) m1=sh at *
  try dsimp only
  by_cases hz:sh=[]
  · rw[if_pos (by simpa using hz),if_pos hz]
  rw[if_neg (by simpa using hz),if_neg hz,AIH h.pw (by omega) (by omega),Option.bind_some]
  have hev: -(2^40:Int)≤JQ (2^40) P∧JQ (2^40) P≤(2^40:Int):=by
    unfold JQ
    have:min (G7 0 (P.dropWhile ([43,45]:List UInt8).contains)) (2^40)≤2^40:=Nat.min_le_right _ _
    split<;>omega
  generalize JQ (2^40) P=x at *
  have hw:wr .i64 (wr .i64 (wr .i64 (x-(F.length:Int))+(m1.length:Int))-(sh.length:Int))=x-(F.length:Int)+(m1.length:Int)-(sh.length:Int):=by
    rw[A8 (n:=x-(F.length:Int)) (by omega),A8 (n:=x-(F.length:Int)+(m1.length:Int)) (by omega),A8 (by omega)]
  rw[hw]
  generalize hy:x-(F.length:Int)+(m1.length:Int)-(sh.length:Int)=y at *
  have hsg:sg.length≤1:=by rcases h.sg with e|e<;>rw[e]<;>simp
  refine(Ca (a:=decide (sh.length>40∨y< -400∨y>400)) fun k26=>?_).trans ?_
  · by_cases c1:(sh.length:Int)>40
    · rw[if_pos (decide_eq_true c1),decide_eq_true (.inl (by omega))]
    · rw[if_neg (by simpa using c1)]
      by_cases c2:y< -400
      · rw[if_pos (decide_eq_true c2),decide_eq_true (.inr (.inl c2))]
      · rw[if_neg (by simpa using c2)]
        congr 1
        simp only[eq_iff_iff,decide_eq_decide];omega
  try dsimp only
  by_cases hc:sh.length>40∨y< -400∨y>400
  · rw[if_pos (decide_eq_true hc),if_pos hc]
  rw[if_neg (by simpa using hc),if_neg hc]
  have hc': ¬(sh.length>40)∧ ¬y< -400∧ ¬y>400:=⟨fun h=>hc (.inl h),fun h=>hc (.inr (.inl h)),fun h=>hc (.inr (.inr h))⟩
  have hf:=WR
  unfold AIg
  by_cases c1:y<0
  · rw[if_pos (decide_eq_true c1),if_pos c1,Ab (by unfold Bb;omega),Ab (by unfold Bb;simp;omega),A8 (by omega),Om (by omega) (by omega),Pj _ (by omega) (by omega),Option.bind_some]
    have:=hf (0-y).toNat
    have:=hf (-y).toNat
    rw[Ab (by unfold Bb;simp;omega),show(0-y).toNat=(-y).toNat by omega]
    simp
  · rw[if_neg (by simpa using c1),if_neg c1]
    by_cases c2:y>0
    · have:=hf y.toNat
      rw[if_pos (decide_eq_true c2),if_pos c2,Ab (by unfold Bb;omega),Ab (by unfold Bb;simp;omega),Om (by omega) (by omega),Pj _ (by omega) (by omega),Option.bind_some,Ab (by unfold Bb;simp;omega)]
      simp
    · rw[if_neg (by simpa using c2),if_neg c2,Ab (by unfold Bb;omega)]
      simp
end
end
end Go.VM
namespace Go.VM
section
variable{N:Nat}
theorem AAP (k29:List UInt8→Option (List UInt8×Int)): ∀(l:List UInt8) (k:Nat),l.length<k→Dm N k29 k l=k29 (l.dropWhile (· ==48))
  |[],k+1,_=>by rw[Dm,Am];rfl
  | x::l,k+1,h=>by
    simp only[List.length_cons]at h
    rw[Dm,Am,if_pos (by simp<;>omega),show idx (x::l) 0=some x from rfl,Option.bind_some,List.dropWhile_cons]
    try dsimp only
    rw[show(Ap x==48)=(x==48)from ND x 48]
    cases x==48
    · rfl
    · rw[if_pos rfl,JK,Option.bind_some,AAP k29 l k (by omega)];rfl
theorem AAT (k40:Int×List UInt8→Option (List UInt8×Int)): ∀(n:Nat) (l:List UInt8) (x:Int),l.length=n→n≤2^50→(∃c r,l=c::r∧(c==48)=false)→ -(2^60)≤x→x+n≤2^60→ ∀k:Nat,n<k→EI N k40 k x l=k40 (x+l.length-(IA (· ==48) l).length,IA (· ==48) l)
  |0,l,x,hl,hb,⟨c,r,e,hc⟩,h1,h3,k,hk=>by rw[e]at hl;simp at hl
  |n+1,l,x,hl,hb,hh,h1,h3,0,hk=>by omega
  | n+1,l,x,hl,hb,hh,h1,h3,k+1,hk=>by
    obtain⟨l',y,rfl⟩: ∃l' y,l=l'++[y]:=by
      have hne:l≠ []:=fun e=>by subst e;simp at hl
      exact⟨l.dropLast,l.getLast hne,(List.dropLast_concat_getLast hne).symm⟩
    have hl':l'.length=n:=by simpa using hl
    rw[EI,Xb l' y (by omega),Option.bind_some,Mc,show(Ap y==48)=(y==48)from ND y 48]
    by_cases hy:(y==48)=true
    · rw [if_pos hy,if_pos hy,VK l' y (by omega),Option.bind_some,A8 (by omega)]
      have hh': ∃c r,l'=c::r∧(c==48)=false:=by
        obtain⟨c,r,e,hc⟩:=hh
        cases l' with
        | nil=>
          simp only[List.nil_append,List.cons.injEq]at e
          rw[e.1,hc]at hy;cases hy
        | cons a l'=>
          simp only[List.cons_append,List.cons.injEq]at e
          exact⟨a,l',rfl,by rw[e.1];exact hc⟩
      rw[AAT k40 n l' (x+1) hl' (by omega) hh' (by omega) (by omega) k (by omega)]
      congr 2
      simp only[List.length_append,List.length_cons,List.length_nil];omega
    · rw[if_neg hy,if_neg hy]
      congr 2;omega
theorem OU (set:List UInt8) (hs:set.length≤1000) (k2:Unit→Option Int) (n:Int) (h:k2 ()=some n): ∀(l:List UInt8) (i:Nat),((i+l.length:Nat):Int)=n→DR N set k2 l (i:Int)=some ((i+(l.takeWhile fun c=>!set.contains c).length:Nat):Int)
  |[],i,hn=>by rw[DR,h,←hn];simp
  | c::l,i,hn=>by
    rw[DR,Tv _ _ hs,Option.bind_some,List.takeWhile_cons]
    cases hc:set.contains c
    · simp only[List.length_cons]at hn
      rw[if_neg (by decide),show(i:Int)+1=((i+1:Nat):Int) by simp,OU set hs k2 n h l (i+1) (by rw[←hn];congr 1;omega)]
      simp only[Bool.not_false,if_true,List.length_cons];congr 2;omega
    · simp
theorem RN (l set:List UInt8) (hs:set.length≤1000) (hb:l.length≤2^60):G8 N l set=some (((l.takeWhile fun c=>!set.contains c).length:Nat):Int):=by
  unfold G8
  rw[Am,Ab (by unfold Bb;omega),show(0:Int)=((0:Nat):Int)from rfl,OU set hs _ _ rfl l 0 (by simp)]
  simp
theorem Nh{p:UInt8→Bool}: ∀ {a b:List UInt8},(∀c∈a,p c=true)→(b=[]∨ ∃c r,b=c::r∧p c=false)→(a++b).takeWhile p=a
  | [],b,_,hb=>by
    rcases hb with rfl|⟨c,r,rfl,hc⟩
    · rfl
    · rw[List.nil_append,List.takeWhile_cons,hc];rfl
  | x::a,b,ha,hb=>by
    rw[List.cons_append,List.takeWhile_cons,ha x (by simp),if_pos rfl,Nh (fun c hc=>ha c (by simp[hc])) hb]
section
variable{s sg W F FR P EX:List UInt8}
theorem Uq{l:List UInt8} (h:l.all DZ=true): ∀c∈l,DZ c=true:=by simpa using h
theorem AAB{c:UInt8} (h:DZ c=true):([101,69]:List UInt8).contains c=false:=by
  have:=Hd (f:=fun n=>if(decide (48≤n)&&decide (n≤57))=true then([101,69]:List UInt8).contains (UInt8.ofNat n)else false) (g:=fun _=>false) (by kernel_rfl) c
  simp only[UInt8.ofNat_toNat,show(decide (48≤c.toNat)&&decide (c.toNat≤57))=true from h,if_true]at this
  exact this
theorem AF8{c:UInt8} (h:DZ c=true):([46]:List UInt8).contains c=false:=by
  rw[Md]
  have:=Je h
  have: ¬c.toNat=(46:UInt8).toNat:=by show¬c.toNat=46;omega
  simpa using this
theorem AHf (h:NumP s sg W F FR P EX) (hn:EE s=s.length) (hb:s.length≤2^48) (hN:s.length+30<N):EP N s=some (JJ sg (W++F) (JQ (2^30) P-F.length)):=by
  obtain⟨l1,l2,l3⟩:=h.len
  have hne:s≠ []:=by
    rw[h.eq]
    intro e
    have:=List.append_eq_nil_iff.1 e
    have:=List.append_eq_nil_iff.1 this.2
    exact h.Wn this.1
  unfold EP
  refine(Ca (a:=false) fun k2=>?_).trans ?_
  · rw[if_neg (by simpa using hne),OD s (by omega) (by omega),Option.bind_some,hn];simp
  try dsimp only
  rw[if_neg (by decide)]
  have hhead: ∀k8:List UInt8×List UInt8→Option (List UInt8×Int),(Option.bind (idx s 0) fun x11=>if(Ap x11==45)=true then Option.bind (sub s 1 (s.length:Int)) fun x12=>k8 (x12,[45])else k8 (s,[]))=k8 (W++(FR++EX),sg):=by
    intro k7
    rcases h.sg with e|e
    · have hs:s=W++(FR++EX):=by rw[h.eq,e];rfl
      cases hW:W with
      |nil=>exact absurd hW h.Wn
      | cons c W'=>
        have hc:DZ c=true:=by
          have:=h.Wd
          rw[hW,List.all_cons,Bool.and_eq_true]at this
          exact this.1
        have hs2:s=c::(W'++(FR++EX)):=by rw[hs,hW];rfl
        rw[hs2,show idx (c::(W'++(FR++EX))) 0=some c from rfl,Option.bind_some,AHL,Md]
        have:=Je hc
        have: ¬c.toNat=(45:UInt8).toNat:=by show¬c.toNat=45;omega
        rw[if_neg (by simpa using this),e];rfl
    · have hs2:s=45::(W++(FR++EX)):=by rw[h.eq,e];rfl
      rw[hs2,show idx (45::(W++(FR++EX))) 0=some 45 from rfl,Option.bind_some,if_pos (by rfl),JK,Option.bind_some,e]
  refine(Ca (a:=(W++(FR++EX),sg)) fun k8=>hhead k8).trans ?_
  try dsimp only
  have hWF:(W++(FR++EX)).takeWhile (fun c=>!([101,69]:List UInt8).contains c)=W++FR:=by
    rw[←List.append_assoc]
    refine Nh (fun c hc=>?_) ?_
    · rcases List.mem_append.1 hc with hc|hc
      · rw[AAB (Uq h.Wd c hc)];rfl
      · rcases h.fr with⟨e1,e2⟩|e
        · rw[e1]at hc;cases hc
        · rw[e]at hc
          rcases List.mem_cons.1 hc with rfl|hc
          · rfl
          · rw[AAB (Uq h.Fd c hc)];rfl
    · rcases h.ex with⟨e1,e2⟩|e|e
      · exact .inl e1
      · exact .inr ⟨_,_,e,rfl⟩
      · exact .inr ⟨_,_,e,rfl⟩
  have hlen:(W++(FR++EX)).length=(W++FR).length+EX.length:=by simp only[List.length_append];omega
  rw[RN _ _ (by decide) (by simp;omega),Option.bind_some,hWF,A8 (by simp;omega),show(((W++FR).length:Nat):Int)+1=(((W++FR).length+1:Nat):Int) by simp,QK,Option.bind_some]
  have hP:(W++(FR++EX)).drop ((W++FR).length+1)=P:=by
    rw[←List.append_assoc,List.drop_append,List.drop_of_length_le (by omega),List.nil_append,Nat.add_sub_cancel_left]
    rcases h.ex with⟨e1,e2⟩|e|e
    · rw[e1,e2];rfl
    · rw[e];rfl
    · rw[e];rfl
  rw[hP,AGg h.pw (by omega),Option.bind_some]
  have hsub:sub (W++(FR++EX)) 0 (((W++FR).length:Nat):Int)=some (W++FR):=by
    rw[show(0:Int)=((0:Nat):Int)from rfl,Gw _ 0 _ (by omega) (by omega),←List.append_assoc]
    simp only[List.drop_zero,Nat.sub_zero,List.take_left]
  rw[hsub,Option.bind_some]
  have hev: -(2^30:Int)≤JQ (2^30) P∧JQ (2^30) P≤(2^30:Int):=by
    unfold JQ
    have:min (G7 0 (P.dropWhile ([43,45]:List UInt8).contains)) (2^30)≤2^30:=Nat.min_le_right _ _
    split<;>omega
  generalize JQ (2^30) P=x at *
  have hdot:(W++FR).takeWhile (fun c=>!([46]:List UInt8).contains c)=W:=by
    refine Nh (fun c hc=>?_) ?_
    · rw[AF8 (Uq h.Wd c hc)];rfl
    · rcases h.fr with⟨e1,e2⟩|e
      · exact .inl e1
      · exact .inr ⟨_,_,e,rfl⟩
  refine(Ca (a:=(x-(F.length:Int),W++F)) fun k21=>?_).trans ?_
  · rw [RN _ _ (by decide) (by simp;omega),Option.bind_some,hdot]
    rcases h.fr with⟨e1,e2⟩|e
    · rw[e1,e2,List.append_nil,if_neg (by simp)];simp
    · have hfl:FR.length=F.length+1:=by rw[e];simp
      have w1:wr .i64 ((W.length:Int)+1)=((W.length+1:Nat):Int):=by rw[A8 (by omega)];simp
      have s1:sub (W++FR) 0 (W.length:Int)=some W:=by
        rw[show(0:Int)=((0:Nat):Int)from rfl,Gw _ 0 _ (by omega) (by simp)];simp only[List.drop_zero,Nat.sub_zero,List.take_left]
      have s2:sub (W++FR) ((W.length+1:Nat):Int) (((W++FR).length:Nat):Int)=some F:=by
        rw[Gw _ _ _ (by simp;omega) (Nat.le_refl _),List.take_of_length_le (by simp<;>omega),List.drop_append,List.drop_of_length_le (by omega),List.nil_append,Nat.add_sub_cancel_left,e];rfl
      rw[if_pos (by simp;omega),s1,Option.bind_some,w1,s2,Option.bind_some,Ab (by unfold Bb;omega)]
      have w2:wr .i64 (x-wr .i64 (wr .i64 ((((W++FR).length:Nat):Int)-(W.length:Int))-1))=x-(F.length:Int):=by
        rw[List.length_append,A8 (n:=((W.length+FR.length:Nat):Int)-(W.length:Int)) (by omega),A8 (n:=((W.length+FR.length:Nat):Int)-(W.length:Int)-1) (by omega),A8 (by omega)]
        omega
      rw[w2]
  try dsimp only
  have hml:=(List.dropWhile_sublist (fun x:UInt8=>x==48) (l:=W++F)).length_le
  rw[List.length_append]at hml
  refine(Ca (a:=(W++F).dropWhile (· ==48)) fun k29=>AAP k29 (W++F) N (by simp;omega)).trans ?_
  try dsimp only
  have hhd:(W++F).dropWhile (fun x:UInt8=>x==48)=[]∨ ∃c r,(W++F).dropWhile (fun x:UInt8=>x==48)=c::r∧(c==48)=false:=by
    generalize W++F=l
    induction l with
    |nil=>exact .inl rfl
    | cons c l ih=>
      rw[List.dropWhile_cons]
      cases hc:(c==48)
      · exact .inr ⟨c,l,rfl,hc⟩
      · exact ih
  have htl:=QW (fun x:UInt8=>x==48) ((W++F).dropWhile (fun x:UInt8=>x==48))
  unfold JJ
  dsimp only
  generalize hm1:(W++F).dropWhile (fun x:UInt8=>x==48)=m1 at *
  by_cases hz:m1=[]
  · subst hz;rfl
  have hhd': ∃c r,m1=c::r∧(c==48)=false:=by
    rcases hhd with e|e
    · exact absurd e hz
    · exact e
  have hsz:IA (fun x:UInt8=>x==48) m1≠ []:=by
    obtain⟨c,r,rfl,hc⟩:=hhd'
    have key: ∀(n:Nat) (r:List UInt8),r.length=n→IA (fun x:UInt8=>x==48) (c::r)≠ []:=by
      intro n
      induction n with
      | zero=>
        intro r hr
        have:r=[]:=List.length_eq_zero_iff.1 hr
        subst this
        unfold IA;simp[hc]
      | succ n ih=>
        intro r hr
        obtain⟨r',y,rfl⟩: ∃l' y,r=l'++[y]:=by
          have hne:r≠ []:=fun e=>by subst e;simp at hr
          exact⟨r.dropLast,r.getLast hne,(List.dropLast_concat_getLast hne).symm⟩
        rw[←List.cons_append,Mc]
        split
        · exact ih r' (by simpa using hr)
        · simp
    exact key _ r rfl
  rw[if_neg (by simpa using hz),if_neg hsz]
  refine(Ca (a:=(x-(F.length:Int)+(m1.length:Int)-((IA (fun x:UInt8=>x==48) m1).length:Int),IA (fun x:UInt8=>x==48) m1)) fun k40=>AAT k40 m1.length m1 _ rfl (by omega) hhd' (by omega) (by omega) N (by omega)).trans ?_
  try dsimp only
  generalize hsh:IA (fun x:UInt8=>x==48) m1=sh at *
  generalize hy:x-(F.length:Int)+(m1.length:Int)-(sh.length:Int)=y at *
  have hsg:sg.length≤1:=by rcases h.sg with e|e<;>rw[e]<;>simp
  refine(Ca (a:=decide (sh.length>40∨y< -400∨y>400)) fun k26=>?_).trans ?_
  · by_cases c1:(sh.length:Int)>40
    · rw[if_pos (decide_eq_true c1),decide_eq_true (.inl (by omega))]
    · rw[if_neg (by simpa using c1)]
      by_cases c2:y>400
      · rw[if_pos (decide_eq_true c2),decide_eq_true (.inr (.inr c2))]
      · rw[if_neg (by simpa using c2)]
        congr 1
        simp only[eq_iff_iff,decide_eq_decide];omega
  try dsimp only
  by_cases hc:sh.length>40∨y< -400∨y>400
  · rw[if_pos (decide_eq_true hc),if_pos hc]
  rw[if_neg (by simpa using hc),if_neg hc]
  have hc': ¬(sh.length>40)∧ ¬y< -400∧ ¬y>400:=⟨fun h=>hc (.inl h),fun h=>hc (.inr (.inl h)),fun h=>hc (.inr (.inr h))⟩
  have hf:=WR
  unfold AIg
  by_cases c1:y<0
  · rw[if_pos (decide_eq_true c1),if_pos c1,Ab (by unfold Bb;omega),Ab (by unfold Bb;simp;omega),A8 (by omega),Om (by omega) (by omega),Pp _ (by omega) (by omega),Option.bind_some]
    have:=hf (0-y).toNat
    have:=hf (-y).toNat
    rw[Ab (by unfold Bb;simp;omega),show(0-y).toNat=(-y).toNat by omega]
    simp
  · rw[if_neg (by simpa using c1),if_neg c1]
    by_cases c2:y>0
    · have:=hf y.toNat
      rw[if_pos (decide_eq_true c2),if_pos c2,Ab (by unfold Bb;omega),Ab (by unfold Bb;simp;omega),Om (by omega) (by omega),Pp _ (by omega) (by omega),Option.bind_some,Ab (by unfold Bb;simp;omega)]
      simp
    · rw[if_neg (by simpa using c2),if_neg c2,Ab (by unfold Bb;omega)]
      simp
end
theorem AEI (s:List UInt8) (hn:s=[]∨EE s≠s.length) (hb:s.length≤2^48):Dy N s=some ([],130):=by
  unfold Dy
  have hp:=Py (N:=N) (l:=s) (t:=s) (i:=0) (by simp) (by omega) (by omega)
  by_cases hz:EE s=0
  · rw[if_pos hz]at hp
    obtain⟨q,hq⟩:=hp
    have hq':Cc N (TokenReader.mk s 0)=some ([],false,q):=hq
    rw[hq',Option.bind_some];rfl
  · rw[if_neg hz]at hp
    have hp':Cc N (TokenReader.mk s 0)=some (s.take (EE s),true,(⟨s,((0+EE s:Nat):Int)⟩:TokenReader)):=hp
    rw[hp',Option.bind_some]
    refine(Ca (a:=true) fun k4=>?_).trans rfl
    have hle:=Z9 s
    have hne:EE s≠s.length:=by
      rcases hn with rfl|h
      · exact absurd rfl hz
      · exact h
    rw[if_pos rfl,List.length_take,Nat.min_eq_left hle]
    congr 1
    simp only[bne_iff_ne,ne_eq];omega
theorem AFt (s:List UInt8) (hn:s=[]∨EE s≠s.length) (hb:s.length≤2^48) (hN:s.length+30<N):EP N s=some ([],130):=by
  unfold EP
  refine(Ca (a:=true) fun k2=>?_).trans rfl
  by_cases h:s=[]
  · subst h;rfl
  · have hne:EE s≠s.length:=by
      rcases hn with e|e
      · exact absurd e h
      · exact e
    rw[if_neg (by simpa using h),OD s (by omega) (by omega),Option.bind_some]
    congr 1
    simp only[bne_iff_ne,ne_eq];omega
end
end Go.VM
namespace Go.VM
theorem QP{p:UInt8→Bool} (l:List UInt8):(l.dropWhile p).length≤l.length:=(List.dropWhile_sublist p (l:=l)).length_le
theorem VX{sg m:List UInt8}{x y:Int} (hm:m.length≤2000000) (h:x=y∨(100000000≤x∧100000000≤y)∨(x≤ -100000000∧y≤ -100000000)):JJ sg m x=JJ sg m y:=by
  unfold JJ
  dsimp only
  have h1:=QP (p:=fun x:UInt8=>x==48) m
  have h2:=QW (fun x:UInt8=>x==48) (m.dropWhile (fun x:UInt8=>x==48))
  generalize m.dropWhile (fun x:UInt8=>x==48)=m1 at *
  generalize IA (fun x:UInt8=>x==48) m1=sh at *
  by_cases hz:sh=[]
  · rw[if_pos hz,if_pos hz]
  · rw[if_neg hz,if_neg hz]
    rcases h with rfl|⟨ha,hb⟩|⟨ha,hb⟩
    · rfl
    · rw[if_pos (.inr (.inr (by omega))),if_pos (.inr (.inr (by omega)))]
    · rw[if_pos (.inr (.inl (by omega))),if_pos (.inr (.inl (by omega)))]
theorem AC3 (P:List UInt8) (f:Nat) (hf:f≤2000000):JQ (2^40) P-f=JQ (2^30) P-f∨(100000000≤JQ (2^40) P-f∧100000000≤JQ (2^30) P-f)∨(JQ (2^40) P-f≤ -100000000∧JQ (2^30) P-f≤ -100000000):=by
  unfold JQ
  generalize G7 0 (P.dropWhile ([43,45]:List UInt8).contains)=v
  by_cases h:v≤2^30
  · rw[Nat.min_eq_left (show v≤2^40 by omega),Nat.min_eq_left h];exact .inl rfl
  · rw[Nat.min_eq_right (show 2^30≤v by omega)]
    have h2:2^30≤min v (2^40):=Nat.le_min.2 ⟨by omega,by decide⟩
    split
    · exact .inr (.inr ⟨by omega,by omega⟩)
    · exact .inr (.inl ⟨by omega,by omega⟩)
theorem Y9 (sg m:List UInt8) (x:Int):(JJ sg m x).2=0∨JJ sg m x=([],144):=by
  unfold JJ
  dsimp only
  split
  · exact .inl rfl
  · split
    · exact .inr rfl
    · exact .inl rfl
def Zc (N:Nat) (s:List UInt8):List UInt8×Int:=(Dy N s).getD ([],144)
theorem AFC{N:Nat}{s:List UInt8} (h0:s≠ []) (hn:EE s=s.length) (hb:s.length≤2000000) (hN:s.length+30<N):
    Dy N s=some (Zc N s)∧EP N s=some (Zc N s)∧((Zc N s).2=0∨Zc N s=([],144)):=by
  obtain⟨sg,W,F,FR,P,EX,h⟩:=RB h0 hn
  obtain⟨l1,l2,l3⟩:=h.len
  have e1:=AHy (N:=N) h hn (by omega) hN
  have e2:=AHf (N:=N) h hn (by omega) hN
  have e3:Zc N s=JJ sg (W++F) (JQ (2^40) P-F.length):=by unfold Zc;rw[e1];rfl
  refine⟨by rw[e3];exact e1,?_,by rw[e3];exact Y9 _ _ _⟩
  rw[e2,e3,VX (by rw[List.length_append];omega) (AC3 P F.length (by omega))]
end Go.VM
namespace Go.VM
mutual
def JA:ApiValue→Nat
  |⟨kind,_,_,items⟩=>(if kind==6||kind==7 then 1 else 0)+Fj items
def Fj:List ApiValue→Nat
  |[]=>0
  |x::xs=>max (JA x) (Fj xs)
end
theorem Lc (v:ApiValue):JA v=(if v.kind==6||v.kind==7 then 1 else 0)+Fj v.items:=by cases v;rw[JA]
theorem AEH (v:ApiValue):0<Ik v:=by rw[JS];omega
section
variable{N:Nat}
def Zl (N:Nat) (s:List UInt8):List UInt8×Int:=if s≠ []∧EE s=s.length then Zc N s else([],130)
theorem AHu (s:List UInt8) (hb:s.length≤2000000) (hN:s.length+30<N):EP N s=some (Zl N s)∧Dy N s=some (Zl N s):=by
  unfold Zl
  by_cases h:s≠ []∧EE s=s.length
  · rw[if_pos h]
    obtain⟨h1,h2,_⟩:=AFC h.1 h.2 hb hN
    exact⟨h2,h1⟩
  · rw[if_neg h]
    have hb':s=[]∨EE s≠s.length:=by
      by_cases h1:s=[]
      · exact .inl h1
      · exact .inr fun h2=>h ⟨h1,h2⟩
    exact⟨AFt s hb' (by omega) hN,AEI s hb' (by omega)⟩
def Ra (N:Nat) (s:List UInt8):Bool:=(Zl N s).2==0&&(Zl N s).1==s
mutual
def FB (N:Nat):ApiValue→Bool
  | ⟨kind,text,keys,items⟩=>
    if kind==1||kind==2||kind==3 then text==[]&&keys.isEmpty&&items.isEmpty
    else if kind==4 then Ra N text&&keys.isEmpty&&items.isEmpty
    else if kind==5 then(Df N text).isSome&&keys.isEmpty&&items.isEmpty
    else if kind==6 then text==[]&&keys.isEmpty&&Ja N items
    else if kind==7 then text==[]&&decide (keys.length=items.length)&&KE N keys&&Ja N items
    else false
def Ja (N:Nat):List ApiValue→Bool
  |[]=>true
  |x::xs=>FB N x&&Ja N xs
end
end
end Go.VM
namespace Go.VM
mutual
def CV:ApiValue→ApiValue
  |⟨kind,text,keys,items⟩=>if kind==6 then⟨kind,text,[],Xx items⟩else⟨kind,text,Iu keys,(Iu keys).map fun k=>(Gg keys (Xx items) k).1⟩
def Xx:List ApiValue→List ApiValue
  |[]=>[]
  |x::xs=>CV x::Xx xs
end
theorem J6: ∀xs:List ApiValue,Xx xs=xs.map CV
  |[]=>rfl
  |x::xs=>by rw[Xx,J6 xs];rfl
mutual
def wrV:ApiValue→List UInt8
  | ⟨kind,text,keys,items⟩=>
    if kind==1 then [110,117,108,108]else if kind==2 then [102,97,108,115,101]else if kind==3 then [116,114,117,101]else if kind==4 then text
    else if kind==5 then FI text else if kind==7 then 123::(wrM true keys items++[125])else 91::(wrI true items++[93])
def wrI:Bool→List ApiValue→List UInt8
  |_,[]=>[]
  |b,x::xs=>(if b then []else [44])++(wrV x++wrI false xs)
def wrM:Bool→List (List UInt8)→List ApiValue→List UInt8
  |b,k::ks,x::xs=>(if b then []else [44])++(FI k++(58::(wrV x++wrM false ks xs)))
  |_,_,_=>[]
end
theorem Le{N:Nat}: ∀ {xs:List ApiValue},Ja N xs=true→ ∀x,x∈xs→FB N x=true
  |[],_,x,hx=>by cases hx
  | y::xs,h,x,hx=>by
    rw[Ja,Bool.and_eq_true]at h
    rcases List.mem_cons.1 hx with rfl|hx
    · exact h.1
    · exact Le h.2 x hx
theorem Pb{N:Nat}: ∀ {xs:List ApiValue},(∀x,x∈xs→FB N x=true)→Ja N xs=true
  |[],_=>rfl
  |y::xs,h=>by rw[Ja,h y (by simp),Pb fun x hx=>h x (by simp[hx])];rfl
inductive Shp (N:Nat):ApiValue→Prop
  |word (k:Int) (hk:k=1∨k=2∨k=3):Shp N ⟨k,[],[],[]⟩
  |num (s:List UInt8) (h:Ra N s=true):Shp N ⟨4,s,[],[]⟩
  |str (s:List UInt8) (h:(Df N s).isSome=true):Shp N ⟨5,s,[],[]⟩
  |arr (xs:List ApiValue) (h: ∀x,x∈xs→FB N x=true):Shp N ⟨6,[],[],xs⟩
  |obj (ks:List (List UInt8)) (xs:List ApiValue) (hl:ks.length=xs.length) (hd:KE N ks=true) (h: ∀x,x∈xs→FB N x=true):Shp N ⟨7,[],ks,xs⟩
theorem Gb{N:Nat}{v:ApiValue} (h:FB N v=true):Shp N v:=by
  obtain⟨kind,text,keys,items⟩:=v
  rw[FB]at h
  by_cases h1:(kind==1||kind==2||kind==3)=true
  · rw[if_pos h1]at h
    simp only[Bool.and_eq_true,beq_iff_eq,List.isEmpty_iff]at h
    obtain⟨⟨rfl,rfl⟩,rfl⟩:=h
    simp only[Bool.or_eq_true,beq_iff_eq]at h1
    exact .word _ (by omega)
  rw[if_neg h1]at h
  by_cases h4:(kind==4)=true
  · rw[if_pos h4]at h
    simp only[Bool.and_eq_true,List.isEmpty_iff]at h
    obtain⟨⟨hn,rfl⟩,rfl⟩:=h
    rw[beq_iff_eq]at h4;subst h4
    exact .num _ hn
  rw[if_neg h4]at h
  by_cases h5:(kind==5)=true
  · rw[if_pos h5]at h
    simp only[Bool.and_eq_true,List.isEmpty_iff]at h
    obtain⟨⟨hn,rfl⟩,rfl⟩:=h
    rw[beq_iff_eq]at h5;subst h5
    exact .str _ hn
  rw[if_neg h5]at h
  by_cases h6:(kind==6)=true
  · rw[if_pos h6]at h
    simp only[Bool.and_eq_true,beq_iff_eq,List.isEmpty_iff]at h
    obtain⟨⟨rfl,rfl⟩,hs⟩:=h
    rw[beq_iff_eq]at h6;subst h6
    exact .arr _ (Le hs)
  rw[if_neg h6]at h
  by_cases h7:(kind==7)=true
  · rw[if_pos h7]at h
    simp only[Bool.and_eq_true,beq_iff_eq,decide_eq_true_eq]at h
    obtain⟨⟨⟨rfl,hl⟩,hd⟩,hs⟩:=h
    rw[beq_iff_eq]at h7;subst h7
    exact .obj _ _ hl hd (Le hs)
  rw[if_neg h7]at h;cases h
theorem Shp.b{N:Nat}{v:ApiValue} (h:Shp N v):FB N v=true:=by
  cases h with
  |word k hk=>rcases hk with rfl|rfl|rfl<;>rfl
  |num s h=>simp[FB,h]
  |str s h=>simp[FB,h]
  |arr xs h=>simp[FB,Pb h]
  |obj ks xs hl hd h=>simp[FB,Pb h,hl,hd]
theorem NF (f:ApiValue→ApiValue): ∀(ks:List (List UInt8)) (xs:List ApiValue) (k:List UInt8),ks.length=xs.length→k∈ks→ ∃x,x∈xs∧Gg ks xs k=(x,true)∧Gg ks (xs.map f) k=(f x,true)
  |[],[],k,_,h=>by cases h
  | a::ks,x::xs,k,hl,h=>by
    by_cases e:a=k
    · exact⟨x,by simp,by simp[Gg,e],by simp[Gg,e]⟩
    · rcases List.mem_cons.1 h with h|h
      · exact absurd h.symm e
      · obtain⟨y,h1,h2,h3⟩:=NF f ks xs k (by simpa using hl) h
        exact⟨y,by simp[h1],by simp[Gg,e,h2],by simp[Gg,e,h3]⟩
section
variable{N:Nat}
theorem AB6:Iu []=[]:=by simp[Iu]
theorem ABN{s:List UInt8} (hs:s.length≤1048576) (h:(Df N s).isSome=true):TH N s=(FI s,0):=by
  unfold TH;rw[if_neg (by omega),if_pos h]
theorem MU (s:List UInt8):(FI s).length≤6 * s.length+2:=by
  unfold FI
  have:=q_len s
  simp only[List.length_cons,List.length_append,List.length_nil];omega
theorem AFf{n:Nat} (h:n≤1000000000):GJ n 1:=by unfold GJ;omega
theorem ZB: ∀(e:Nat) (v:ApiValue),okW e v→FB N v=true→(wrV v).length+1850≤3700 * Ik v
  |0,v,h,_=>by have:=h.pos;omega
  | e+1,v,h,hs=>by
    have ht:=h.text;have hsub:=h.sub;have hkl:=h.klen
    rw[JS]
    cases Gb hs with
    |word k hkw=>rcases hkw with rfl|rfl|rfl<;>(simp only[wrV];decide+revert)<;>simp[wrV,E5]
    |num s _=>simp only at ht;simp[wrV,E5];omega
    | str s _=>
      simp only at ht
      have:=MU s
      simp[wrV,E5];omega
    | arr xs hx=>
      simp only at hsub
      have key: ∀(b:Bool) (ys:List ApiValue),(∀y,y∈ys→okW e y∧FB N y=true)→(wrI b ys).length≤3700 * E5 ys:=by
        intro b ys
        induction ys generalizing b with
        |nil=>intro _;simp[wrI]
        | cons y ys ih=>
          intro hy
          have h1:=ZB e y (hy y (by simp)).1 (hy y (by simp)).2
          have h2:=ih false fun z hz=>hy z (by simp[hz])
          rw[wrI,E5]
          simp only[List.length_append]
          have:(if b=true then([]:List UInt8)else [44]).length≤1:=by cases b<;>simp
          omega
      have:=key true xs fun y hy=>⟨hsub y hy,hx y hy⟩
      simp[wrV];omega
    | obj ks xs hl hd hx=>
      simp only at hsub hkl
      have key: ∀(b:Bool) (ks:List (List UInt8)) (ys:List ApiValue),(∀k,k∈ks→k.length≤300)→(∀y,y∈ys→okW e y∧FB N y=true)→(wrM b ks ys).length≤3700 * E5 ys:=by
        intro b ks ys
        induction ys generalizing b ks with
        |nil=>intro _ _;cases ks<;>simp[wrM]
        | cons y ys ih=>
          intro hk hy
          cases ks with
          |nil=>simp[wrM]
          | cons k ks=>
            have h1:=ZB e y (hy y (by simp)).1 (hy y (by simp)).2
            have h2:=ih false ks (fun z hz=>hk z (by simp[hz])) fun z hz=>hy z (by simp[hz])
            have h3:=MU k
            have h4:=hk k (by simp)
            rw[wrM,E5]
            simp only[List.length_append,List.length_cons]
            have:(if b=true then([]:List UInt8)else [44]).length≤1:=by cases b<;>simp
            omega
      have:=key true ks xs hkl fun y hy=>⟨hsub y hy,hx y hy⟩
      simp[wrV];omega
end
end Go.VM
