import Derived.Test.YtooeobhihpkicaaGreatDoorL4
set_option linter.unusedVariables false
set_option linter.unusedSimpArgs false
namespace Go.VM
section
variable{N:Nat}
theorem Pg: ∀l:List UInt8,List.map IR (List.map Am l)=l
  |[]=>rfl
  |c::l=>by rw[List.map_cons,List.map_cons,Kl,Pg l]
def Qw:Nat→Nat→List UInt8→List UInt8
  |0,_,acc=>acc
  |k+1,n,acc=>if n / 10=0 then UInt8.ofNat (48+n % 10)::acc else Qw k (n / 10) (UInt8.ofNat (48+n % 10)::acc)
def fmtS (n:Nat):List UInt8:=Qw 20 n []
theorem XL: ∀(k n:Nat) (acc:List UInt8),(Qw k n acc).length≤acc.length+k
  |0,n,acc=>by simp[Qw]
  | k+1,n,acc=>by
    rw[Qw]
    split
    · simp<;>omega
    · have:=XL k (n / 10) (UInt8.ofNat (48+n % 10)::acc)
      simp only[List.length_cons]at this;omega
theorem QZ (n:Nat):(fmtS n).length≤20:=by have:=XL 20 n [];simpa[fmtS]using this
theorem ALJ (n:Nat):wr .u64 ((n:Int).tdiv 10)=if n<2^64 then((n / 10:Nat):Int)else wr .u64 ((n:Int).tdiv 10):=by
  split
  · rw[Int.tdiv_eq_ediv_of_nonneg (by omega),Jt (by omega)];simp
  · rfl
theorem AKL{n:Nat} (h:n<2^64):wr .u64 ((n:Int).tdiv 10)=((n / 10:Nat):Int):=by rw[ALJ,if_pos h]
theorem AKS{n:Nat}:wr .u64 (48+(n:Int).tmod 10)=((48+n % 10:Nat):Int):=by
  rw[Int.tmod_eq_emod_of_nonneg (by omega),Jt (by omega)];simp
theorem NZ: ∀(k n:Nat) (acc:List UInt8),n<10^k→n<2^64→acc.length+k≤1000→ ∀m,k≤m→0<k→Ec N m (n:Int) acc=some (Qw k n acc)
  |0,n,acc,h,h2,ha,m,hm,hk=>by omega
  | k+1,n,acc,h,h2,ha,m+1,hm,hk=>by
    rw[Ec,AKL h2,AKS,Qw]
    rw[AZ (by unfold Bf;simp<;>omega)]
    have e:(List.map IR [wr .u8 ((48+n % 10:Nat):Int)]++acc)=UInt8.ofNat (48+n % 10)::acc:=by
      rw[NB,Nat.mod_eq_of_lt (show 48+n % 10<256 by omega)];rfl
    rw[e]
    by_cases c:n / 10=0
    · rw[if_pos (by rw[c];rfl),if_pos c]
    · have c': ¬((((n / 10:Nat):Int))==0)=true:=by simp<;>omega
      rw[if_neg c',if_neg c]
      have hk2:0<k:=by
        cases k with
        |zero=>simp at h;omega
        |succ=>omega
      exact NZ k (n / 10) _ (by rw[Nat.pow_succ]at h;omega) (by omega) (by simp<;>omega) m (by omega) hk2
theorem Ry (n:Nat) (h:n<2^64) (hN:20≤N):G9 N (n:Int)=some (fmtS n):=by
  unfold G9 fmtS
  exact NZ 20 n [] (by omega) h (by simp) N hN (by omega)
theorem Zg (a:Nat) (x:Int) (acc:List Int):(List.replicate (a+1) 0++acc).set a x=List.replicate a 0++x::acc:=by
  rw[List.replicate_succ',List.append_assoc]
  simp
theorem Nb (k2:Int×Int×List Int→Option (List UInt8)) (R:List UInt8→Option (List UInt8)) (hk: ∀(n a:Nat) (acc:List UInt8),n<10→a≤19→acc.length+a=19→k2 ((n:Int),(a:Int),List.replicate (a+1) 0++acc.map Am)=R (UInt8.ofNat (48+n)::acc)):
    ∀(j n a:Nat) (acc:List UInt8),n<10^(j+1)→n<2^64→j≤a→a≤19→acc.length+a=19→ ∀m,j<m→EK N k2 m (n:Int) (a:Int) (List.replicate (a+1) 0++acc.map Am)=R (Qw (j+1) n acc)
  |j,n,a,acc,h,h2,hj,ha,hl,0,hm=>by omega
  | j,n,a,acc,h,h2,hj,ha,hl,m+1,hm=>by
    rw[EK,Qw]
    by_cases c:n / 10=0
    · have c': ¬(n:Int)≥10:=by omega
      rw[if_neg (by simpa using c'),if_pos c,Nat.mod_eq_of_lt (by omega)]
      exact hk n a acc (by omega) ha hl
    · have c':(n:Int)≥10:=by omega
      rw[if_pos (decide_eq_true c'),if_neg c]
      obtain⟨j,rfl⟩: ∃i,j=i+1:=⟨j-1,by
        cases j with
        |zero=>simp at h;omega
        |succ=>omega⟩
      obtain⟨a,rfl⟩: ∃i,a=i+1:=⟨a-1,by omega⟩
      rw[AZ (by omega),AZ (by simp<;>omega),AKL h2,AKS,NB,Nat.mod_eq_of_lt (show 48+n % 10<256 by omega),Ak (by omega)]
      rw[show((a+1:Nat):Int)-1=(a:Int) by simp,Int.toNat_natCast,Zg]
      have e:List.replicate (a+1) 0++((48+n % 10:Nat):Int)::List.map Am acc=List.replicate (a+1) 0++List.map Am (UInt8.ofNat (48+n % 10)::acc):=by
        rw[List.map_cons,IX,toNat_ofNat (by omega)]
      rw[e]
      exact Nb k2 R hk j (n / 10) a _ (by rw[Nat.pow_succ]at h;omega) (by omega) (by omega) (by omega) (by simp<;>omega) m (by omega)
theorem QV (n:Nat) (h:n<2^64) (hN:20≤N):Gf N (n:Int)=some (fmtS n):=by
  unfold Gf fmtS
  rw[AR]
  refine Nb (N:=N) _ some (fun n a acc hn ha hl=>?_) 19 n 19 [] (by omega) h (by omega) (by omega) rfl N (by omega)
  have w:wr .u8 (wr .u64 (48+(n:Int)))=((48+n:Nat):Int):=by
    rw[Jt (by omega),show(48:Int)+(n:Int)=((48+n:Nat):Int) by simp,NB,Nat.mod_eq_of_lt (by omega)]
  simp only[Int.toNat_natCast,w]
  rw[Zg]
  rw[AZ (by omega),AZ (by simp<;>omega),AZ (by omega),AZ (by unfold Bf;simp<;>omega)]
  congr 1
  rw[List.drop_append,List.drop_of_length_le (by simp),List.length_replicate,Nat.sub_self,List.drop_zero,List.nil_append,List.take_of_length_le (by simp<;>omega),List.map_cons,Pg]
  rfl
end
end Go.VM
namespace Go.VM
structure NumP (s sg W F FR P EX:List UInt8):Prop where
  eq:s=sg++(W++(FR++EX))
  sg:sg=[]∨sg=[45]
  Wd:W.all Cu=true
  Wn:W≠ []
  fr:(FR=[]∧F=[])∨FR=46::F
  Fd:F.all Cu=true
  ex:(EX=[]∧P=[])∨EX=101::P∨EX=69::P
  pw:P=[]∨ ∃sn D,P=sn++D∧(sn=[]∨sn=[43]∨sn=[45])∧D≠ []∧D.all Cu=true
theorem P8 (t:List UInt8):(t.take (De t)).all Cu=true:=by
  unfold De
  rw[NG]
  induction t with
  |nil=>rfl
  | cons c t ih=>
    rw[List.takeWhile_cons]
    cases h:Cu c
    · rfl
    · simp only[if_true,List.all_cons,h,Bool.true_and];exact ih
theorem Rb{k:UInt8}{t:List UInt8} (h:CV [k] t=true): ∃r,t=k::r:=by
  cases t with
  |nil=>cases h
  | cons c r=>
    have:c=k:=by simpa[CV]using h
    exact⟨r,by rw[this]⟩
theorem YD{a b:UInt8}{t:List UInt8} (h:CV [a,b] t=true): ∃r,t=a::r∨t=b::r:=by
  cases t with
  |nil=>cases h
  | cons c r=>
    have:c=a∨c=b:=by simpa[CV]using h
    rcases this with rfl|rfl
    · exact⟨r,.inl rfl⟩
    · exact⟨r,.inr rfl⟩
theorem ACk (t:List UInt8):t.take (Ac t)=[]∨t.take (Ac t)=[45]:=by
  unfold Ac
  by_cases h:CV [45] t=true
  · rw[if_pos h]
    obtain⟨r,rfl⟩:=Rb h
    exact .inr rfl
  · rw[if_neg h];exact .inl (by simp)
theorem AGj (t:List UInt8) (h:CY t≠0):(t.take (CY t)).all Cu=true∧t.take (CY t)≠ []:=by
  have hle:=NU t
  refine⟨?_,fun e=>?_⟩
  · unfold CY
    by_cases h:CV [48] t=true
    · rw[if_pos h]
      obtain⟨r,rfl⟩:=Rb h
      rfl
    · rw[if_neg h];exact P8 t
  · have:=congrArg List.length e
    rw[List.length_take,List.length_nil]at this
    omega
theorem ACr (t:List UInt8): ∃F,((t.take (DK t)=[]∧F=[])∨t.take (DK t)=46::F)∧F.all Cu=true:=by
  unfold DK
  by_cases h:CV [46] t=true∧0<De (t.drop 1)
  · rw[if_pos h]
    obtain⟨r,rfl⟩:=Rb h.1
    refine⟨r.take (De r),.inr ?_,P8 r⟩
    rw[Nat.add_comm];rfl
  · rw[if_neg h];exact⟨[],.inl ⟨by simp,rfl⟩,rfl⟩
theorem AGR (t:List UInt8): ∃P,((t.take (Gp t)=[]∧P=[])∨t.take (Gp t)=101::P∨t.take (Gp t)=69::P)∧(P=[]∨ ∃sn D,P=sn++D∧(sn=[]∨sn=[43]∨sn=[45])∧D≠ []∧D.all Cu=true):=by
  unfold Gp
  by_cases h:CV [101,69] t=true∧0<De (t.drop (1+Fg t))
  · rw [if_pos h]
    have key: ∀(c:UInt8) (r:List UInt8),t=c::r→ ∃P,t.take (1+Fg t+De (t.drop (1+Fg t)))=c::P∧(P=[]∨ ∃sn D,P=sn++D∧(sn=[]∨sn=[43]∨sn=[45])∧D≠ []∧D.all Cu=true):=by
      rintro c r rfl
      have hr:=h.2
      have hes:Fg (c::r)=if CV [43,45] r=true then 1 else 0:=rfl
      by_cases k:CV [43,45] r=true
      · rw[if_pos k]at hes
        rw[hes]at hr⊢
        obtain⟨d,q,rfl,hd⟩: ∃d q,r=d::q∧(d=43∨d=45):=by
          obtain⟨q,e|e⟩:=YD k
          · exact⟨_,q,e,.inl rfl⟩
          · exact⟨_,q,e,.inr rfl⟩
        have e:(c::d::q).drop (1+1)=q:=rfl
        rw[e]at hr⊢
        refine⟨d::q.take (De q),?_,.inr ⟨[d],q.take (De q),rfl,?_,fun e=>?_,P8 q⟩⟩
        · rw[show 1+1+De q=De q+1+1 by omega];rfl
        · rcases hd with rfl|rfl
          · exact .inr (.inl rfl)
          · exact .inr (.inr rfl)
        · have:=congrArg List.length e
          have h2:=Kz q
          rw[List.length_take,List.length_nil]at this;omega
      · rw[if_neg k]at hes
        rw[hes]at hr⊢
        have e:(c::r).drop (1+0)=r:=rfl
        rw[e]at hr⊢
        refine⟨r.take (De r),?_,.inr ⟨[],r.take (De r),rfl,.inl rfl,fun e=>?_,P8 r⟩⟩
        · rw[show 1+0+De r=De r+1 by omega];rfl
        · have:=congrArg List.length e
          have h2:=Kz r
          rw[List.length_take,List.length_nil]at this;omega
    obtain⟨r,e|e⟩:=YD h.1
    · obtain⟨P,h1,h2⟩:=key _ _ e
      exact⟨P,.inr (.inl h1),h2⟩
    · obtain⟨P,h1,h2⟩:=key _ _ e
      exact⟨P,.inr (.inr h1),h2⟩
  · rw[if_neg h];exact⟨[],.inl ⟨by simp,rfl⟩,.inl rfl⟩
theorem ALP (s:List UInt8) (a b c:Nat):s=s.take a++((s.drop a).take b++((s.drop (a+b)).take c++s.drop (a+b+c))):=by
  rw[show s.drop (a+b+c)=(s.drop (a+b)).drop c by rw[List.drop_drop],List.take_append_drop,show s.drop (a+b)=(s.drop a).drop b by rw[List.drop_drop],List.take_append_drop,List.take_append_drop]
theorem OI{s:List UInt8} (h0:s≠ []) (h:Cz s=s.length): ∃sg W F FR P EX,NumP s sg W F FR P EX:=by
  have hpos:s.length≠0:=fun e=>h0 (List.length_eq_zero_iff.1 e)
  have hz:CY (s.drop (Ac s))≠0:=by
    intro hz
    unfold Cz at h;rw[if_pos hz]at h;omega
  have hnum:Cz s=Ac s+CY (s.drop (Ac s))+DK (s.drop (Ac s+CY (s.drop (Ac s))))+Gp (s.drop (Ac s+CY (s.drop (Ac s))+DK (s.drop (Ac s+CY (s.drop (Ac s)))))):=by
    unfold Cz;rw[if_neg hz]
  obtain⟨w1,w2⟩:=AGj _ hz
  obtain⟨F,f1,f2⟩:=ACr (s.drop (Ac s+CY (s.drop (Ac s))))
  obtain⟨P,e1,e2⟩:=AGR (s.drop (Ac s+CY (s.drop (Ac s))+DK (s.drop (Ac s+CY (s.drop (Ac s))))))
  refine⟨_,_,F,_,P,_,⟨?_,ACk s,w1,w2,f1,f2,e1,e2⟩⟩
  rw[List.take_of_length_le (l:=s.drop (Ac s+CY (s.drop (Ac s))+DK (s.drop (Ac s+CY (s.drop (Ac s)))))) (by rw[List.length_drop];omega)]
  exact ALP _ _ _ _
theorem Ve{W r:List UInt8} (h:W.all Cu=true) (hr:r=[]∨ ∃c q,r=c::q∧Cu c=false):De (W++r)=W.length:=by
  unfold De
  induction W with
  | nil=>
    rcases hr with rfl|⟨c,q,rfl,hc⟩
    · rfl
    · rw[List.nil_append,List.takeWhile_cons,hc];rfl
  | cons c W ih=>
    simp only[List.all_cons,Bool.and_eq_true]at h
    rw[List.cons_append,List.takeWhile_cons,h.1,if_pos rfl,List.length_cons,ih h.2,List.length_cons]
theorem AGO{c k:UInt8} (h:Cu c=true) (hk:Cu k=false):c≠k:=fun e=>by subst e;rw[h]at hk;cases hk
theorem P7{k:UInt8} (hk:Cu k=false): ∀ {l:List UInt8},l.all Cu=true→l.contains k=false
  |[],_=>rfl
  | c::l,h=>by
    simp only[List.all_cons,Bool.and_eq_true]at h
    rw[List.contains_cons,P7 hk h.2,Bool.or_false]
    have:=AGO h.1 hk
    simpa using fun e:k=c=>this e.symm
end Go.VM
namespace Go.VM
section
variable{N:Nat}
def Ey:Nat→List UInt8→Nat
  |n,[]=>n
  |n,c::l=>Ey (n * 10+FH c.toNat) l
theorem Nu: ∀(l:List UInt8) (n:Nat),n≤Ey n l
  |[],n=>by rw[Ey];exact Nat.le_refl _
  | c::l,n=>by
    have:=Nu l (n * 10+FH c.toNat)
    rw[Ey];omega
theorem J5{c:UInt8} (h:Cu c=true):48≤c.toNat∧c.toNat≤57:=by
  simpa[Cu]using h
theorem Pv{c:UInt8} (h:Cu c=true):K3 c=true∧FH c.toNat=c.toNat-48:=by
  have:=J5 h
  refine⟨?_,?_⟩
  · simp only[K3,Sq,Bool.or_eq_true,Bool.and_eq_true,decide_eq_true_eq];omega
  · unfold FH;rw[if_pos this.2]
theorem AKK (k2:Unit→Option (Int×Int)): ∀l:List UInt8,BK N k2 l=if l.all Cu=true then k2 ()else some (0,1)
  |[]=>by rw[BK];rfl
  | c::l=>by
    rw[BK,ACE,Option.bind_some,AKK k2 l]
    cases h:Cu c<;>simp[h]
theorem AKN{m:Nat} (hm:m≤2^59) (k9:Int→Option (Int×Int)): ∀(l:List UInt8) (n:Nat),l.all Cu=true→n≤m→BL N 10 (m:Int) k9 l (n:Int)=if Ey n l≤m then k9 ((Ey n l:Nat):Int)else some (0,4)
  |[],n,_,hn=>by rw[BL,Ey,if_pos hn]
  | c::l,n,h,hn=>by
    simp only[List.all_cons,Bool.and_eq_true]at h
    have hd:FH c.toNat≤9:=by have:=J5 h.1;rw[(Pv h.1).2];omega
    obtain⟨hx,hv⟩:=Pv h.1
    rw[BL,AH8 c hx,Option.bind_some,AR,AZ (by decide)]
    have w1:wr .u64 ((n:Int) * 10)=((n * 10:Nat):Int):=by rw[Jt (by omega)];simp
    have w2:wr .u64 (((n * 10:Nat):Int)+((FH c.toNat:Nat):Int))=((n * 10+FH c.toNat:Nat):Int):=by rw[Jt (by omega)];simp
    have w3:wr .u64 (18446744073709551615-((FH c.toNat:Nat):Int))=18446744073709551615-((FH c.toNat:Nat):Int):=Jt (by omega)
    rw[w1,w2,w3,Int.tdiv_eq_ediv_of_nonneg (by omega),Jt (by omega)]
    have c1: ¬((n:Int)>(18446744073709551615-((FH c.toNat:Nat):Int)) / 10):=by omega
    rw[if_neg (by simpa using c1),Ey]
    by_cases c2:n * 10+FH c.toNat≤m
    · have c3: ¬(((n * 10+FH c.toNat:Nat):Int)>(m:Int)):=by omega
      rw[decide_eq_false c3]
      simp only[Bool.false_eq_true,if_false]
      exact AKN hm k9 l _ h.2 c2
    · have c3:(((n * 10+FH c.toNat:Nat):Int)>(m:Int)):=by omega
      have:=Nu l (n * 10+FH c.toNat)
      rw[decide_eq_true c3,if_neg (by omega)];rfl
theorem AD8{m:Nat} (hm:m≤2^59) (l:List UInt8) (hb:l.length≤2^60):Ie N l (m:Int)=some (if l=[]then(0,3)else if l.all Cu=true then(if Ey 0 l≤m then(((Ey 0 l:Nat):Int),0)else(0,4))else(0,1)):=by
  unfold Ie Dz
  by_cases h:l=[]
  · subst h;rfl
  · rw[if_neg (by simpa using h),if_neg h,AR,AZ (by unfold Bf;omega),AKK]
    by_cases h1:l.all Cu=true
    · rw[if_pos h1,if_pos h1,AR,AZ (by unfold Bf;omega),show(0:Int)=((0:Nat):Int)from rfl,AKN hm _ l 0 h1 (by omega)]
      split<;>rfl
    · rw[if_neg h1,if_neg h1];rfl
def I1 (B:Nat) (P:List UInt8):Int:=if CV [45] P=true then-((min (Ey 0 (P.dropWhile ([43,45]:List UInt8).contains)) B:Nat):Int)else((min (Ey 0 (P.dropWhile ([43,45]:List UInt8).contains)) B:Nat):Int)
def Wv (P:List UInt8):Prop:=P=[]∨ ∃sn D,P=sn++D∧(sn=[]∨sn=[43]∨sn=[45])∧D≠ []∧D.all Cu=true
theorem UJ{c:UInt8} (h:Cu c=true):([43,45]:List UInt8).contains c=false:=by
  have:=FV (f:=fun n=>if(decide (48≤n)&&decide (n≤57))=true then([43,45]:List UInt8).contains (UInt8.ofNat n)else false) (g:=fun _=>false) (by kernel_rfl) c
  simp only[UInt8.ofNat_toNat,show(decide (48≤c.toNat)&&decide (c.toNat≤57))=true from h,if_true]at this
  exact this
theorem Kh{D:List UInt8} (h:D.all Cu=true):D.dropWhile ([43,45]:List UInt8).contains=D:=by
  cases D with
  |nil=>rfl
  | cons c D=>
    simp only[List.all_cons,Bool.and_eq_true]at h
    rw[List.dropWhile_cons,UJ h.1];rfl
theorem Td{P:List UInt8} (h:Wv P):(P.dropWhile ([43,45]:List UInt8).contains).all Cu=true∧(P.dropWhile ([43,45]:List UInt8).contains=[]→P=[]):=by
  rcases h with rfl|⟨sn,D,rfl,hs,hD,hd⟩
  · exact⟨rfl,fun _=>rfl⟩
  · have:(sn++D).dropWhile ([43,45]:List UInt8).contains=D:=by
      rcases hs with rfl|rfl|rfl
      · exact Kh hd
      · show(43::D).dropWhile _=D
        rw[List.dropWhile_cons,show([43,45]:List UInt8).contains 43=true from rfl,if_pos rfl];exact Kh hd
      · show(45::D).dropWhile _=D
        rw[List.dropWhile_cons,show([43,45]:List UInt8).contains 45=true from rfl,if_pos rfl];exact Kh hd
    rw[this]
    exact⟨hd,fun e=>absurd e hD⟩
theorem AIA{P:List UInt8} (h:Wv P) (hb:P.length≤2^60) (hN:P.length<N):Gt N P=some (I1 (2^40) P):=by
  obtain⟨h1,h2⟩:=Td h
  unfold Gt
  rw[ACY P [43,45] (by simp) (by simp) (by decide) hN,Option.bind_some]
  have hl:=(List.dropWhile_sublist ([43,45]:List UInt8).contains (l:=P)).length_le
  unfold I1
  generalize hD:P.dropWhile ([43,45]:List UInt8).contains=D at *
  rw[show(1099511627776:Int)=((2^40:Nat):Int)from rfl,AD8 (by decide) D (by omega),Option.bind_some]
  by_cases he:D=[]
  · rw[if_pos he]
    have hP:=h2 he
    subst hP;subst he
    rfl
  · rw[if_neg he,if_pos h1]
    have key: ∀v:Nat,v≤2^40→(Option.bind (strings_HasPrefix N P [45]) fun y9=>if y9=true then some (wr .i64 (0-wr .i64 (v:Int)))else some (wr .i64 (v:Int)))=some (if CV [45] P=true then-(v:Int)else(v:Int)):=by
      intro v hv
      rw[AIj,Option.bind_some,Ak (n:=(v:Int)) (by omega),Ak (n:=0-(v:Int)) (by omega)]
      split<;>simp
    rw[AR]
    by_cases hv:Ey 0 D≤2^40
    · rw[if_pos hv,Nat.min_eq_left hv]
      exact key _ hv
    · rw[if_neg hv,Nat.min_eq_right (by omega)]
      exact key _ (Nat.le_refl _)
theorem Ov (k19:Int→Option Int): ∀(l:List UInt8) (n:Nat),l.all Cu=true→n≤2^30→Cs N k19 l (n:Int)=k19 ((min (Ey n l) (2^30):Nat):Int)
  |[],n,_,hn=>by rw[Cs,Ey,Nat.min_eq_left hn]
  | c::l,n,h,hn=>by
    simp only[List.all_cons,Bool.and_eq_true]at h
    have hd:=J5 h.1
    rw[Cs,Ey]
    have w0:wr .u8 (Am c-48)=((FH c.toNat:Nat):Int):=by rw[AKR (by simp only[Am];omega)];rw[(Pv h.1).2];simp only[Am];omega
    have hd9:FH c.toNat≤9:=by rw[(Pv h.1).2];omega
    rw[w0,Ak (n:=(n:Int) * 10) (by omega),Ak (n:=((FH c.toNat:Nat):Int)) (by omega),Ak (by omega)]
    have e:(n:Int) * 10+((FH c.toNat:Nat):Int)=((n * 10+FH c.toNat:Nat):Int):=by simp
    rw[e]
    have hge:=Nu l (n * 10+FH c.toNat)
    by_cases c1:(1073741824:Int)<((n * 10+FH c.toNat:Nat):Int)
    · rw[if_pos c1,show(1073741824:Int)=((2^30:Nat):Int)from rfl,Ov k19 l (2^30) h.2 (Nat.le_refl _)]
      have:=Nu l (2^30)
      rw[Nat.min_eq_right this,Nat.min_eq_right (by omega)]
    · rw[if_neg c1,Ov k19 l _ h.2 (by omega)]
theorem AIy{P:List UInt8} (h:Wv P) (hb:P.length≤2^60):Gz N P=some (I1 (2^30) P):=by
  obtain⟨h1,h2⟩:=Td h
  unfold Gz
  refine(CK (a:=CV [45] P) fun k2=>?_).trans ?_
  · cases P with
    |nil=>rfl
    |cons c P=>rw[if_neg (by simp),show idx (c::P) 0=some c from rfl,Option.bind_some,AFA];rfl
  try dsimp only
  refine(CK (a:=P.dropWhile ([43,45]:List UInt8).contains) fun k7=>(CK (a:=CV [43,45] P) fun k11=>?_).trans ?_).trans ?_
  · cases P with
    |nil=>rfl
    | cons c P=>
      show(if(c::P==([]:List UInt8))=true then k11 false else Option.bind (idx (c::P) 0) fun x14=>Option.bind (Gr N (Am x14) [43,45]) fun y15=>k11 y15)=_
      rw[if_neg (by simp),show idx (c::P) 0=some c from rfl,Option.bind_some,Oa _ _ (by decide),Option.bind_some];rfl
  · try dsimp only
    rcases h with rfl|⟨sn,D,rfl,hs,hD,hd⟩
    · rfl
    · have hdd:=Kh hd
      rcases hs with rfl|rfl|rfl
      · cases D with
        |nil=>exact absurd rfl hD
        | cons c D=>
          simp only[List.all_cons,Bool.and_eq_true]at hd
          rw[List.nil_append,hdd,if_neg (by show¬([43,45]:List UInt8).contains c=true;rw[UJ hd.1];simp)]
      · have e:([43]++D).dropWhile ([43,45]:List UInt8).contains=D:=by
          show(43::D).dropWhile _=D
          rw[List.dropWhile_cons,show([43,45]:List UInt8).contains 43=true from rfl,if_pos rfl];exact hdd
        rw[e,if_pos (by rfl)]
        exact(congrArg (fun x=>Option.bind x k7) (Ji 43 D)).trans rfl
      · have e:([45]++D).dropWhile ([43,45]:List UInt8).contains=D:=by
          show(45::D).dropWhile _=D
          rw[List.dropWhile_cons,show([43,45]:List UInt8).contains 45=true from rfl,if_pos rfl];exact hdd
        rw[e,if_pos (by rfl)]
        exact(congrArg (fun x=>Option.bind x k7) (Ji 45 D)).trans rfl
  try dsimp only
  have hl:=(List.dropWhile_sublist ([43,45]:List UInt8).contains (l:=P)).length_le
  unfold I1
  generalize hD:P.dropWhile ([43,45]:List UInt8).contains=D at *
  rw[AR,AZ (by unfold Bf;omega),show(0:Int)=((0:Nat):Int)from rfl,Ov _ D 0 h1 (by omega)]
  have:min (Ey 0 D) (2^30)≤2^30:=Nat.min_le_right _ _
  rw[Ak (by omega)]
  split<;>simp
def Lb (y:Int):List UInt8:=if y<0 then [101,45]++fmtS (-y).toNat else if y>0 then [101]++fmtS y.toNat else []
def GN (sg m:List UInt8) (x:Int):List UInt8×Int:=
  let m1:=m.dropWhile (· ==48)
  let sh:=En (· ==48) m1
  if sh=[]then([48],0)
  else if sh.length>40∨x+m1.length-sh.length< -400∨x+m1.length-sh.length>400 then([],144)
  else(sg++sh++Lb (x+m1.length-sh.length),0)
theorem QA{y:Int} (h:0≤y) (h2:y≤2^60):wr .u64 y=((y.toNat:Nat):Int):=by rw[Jt (by omega)];omega
theorem WQ{l:List UInt8} (h:l.all Cu=true):l.map Kj=l:=by
  induction l with
  |nil=>rfl
  | cons c l ih=>
    simp only[List.all_cons,Bool.and_eq_true]at h
    have:=J5 h.1
    rw[List.map_cons,ih h.2]
    congr 1
    unfold Kj AIF;rw[if_neg (by omega)];simp
theorem VK{c:UInt8}{a b:List UInt8} (h:a.contains c=false):R9 c (a++c::b)=(a,b,true):=by
  have h1: ∀a:List UInt8,a.contains c=false→(a++c::b).takeWhile (· !=c)=a∧(a++c::b).dropWhile (· !=c)=c::b:=by
    intro a
    induction a with
    |nil=>intro _;simp
    | cons x a ih=>
      intro h
      rw[List.contains_cons,Bool.or_eq_false_iff]at h
      have hx:(x !=c)=true:=by
        have:c≠x:=by simpa using h.1
        simpa using fun e:x=c=>this e.symm
      obtain⟨i1,i2⟩:=ih h.2
      rw[List.cons_append,List.takeWhile_cons,List.dropWhile_cons,hx,i1,i2]
      exact⟨rfl,rfl⟩
  unfold R9
  rw[if_pos (by simp),(h1 a h).1,(h1 a h).2];rfl
theorem AB9{c:UInt8}{a:List UInt8} (h:a.contains c=false):R9 c a=(a,[],false):=by
  unfold R9;rw[if_neg (by rw[h];simp)]
theorem Ui{c:UInt8}{a b:List UInt8}:(a++b).contains c=(a.contains c||b.contains c):=by
  simp[List.contains_eq_any_beq,List.any_append]
theorem ACK{P:List UInt8} (h:Wv P):P.map Kj=P:=by
  rcases h with rfl|⟨sn,D,rfl,hs,hD,hd⟩
  · rfl
  · rw[List.map_append,WQ hd]
    rcases hs with rfl|rfl|rfl<;>rfl
section
variable{s sg W F FR P EX:List UInt8}
theorem NumP.len (h:NumP s sg W F FR P EX):s.length=sg.length+(W.length+(FR.length+EX.length))∧F.length≤FR.length∧P.length≤EX.length:=by
  refine⟨by rw[h.eq];simp,?_,?_⟩
  · rcases h.fr with⟨e1,e2⟩|e
    · rw[e2];simp
    · rw[e];simp
  · rcases h.ex with⟨e1,e2⟩|e|e
    · rw[e2];simp
    · rw[e];simp
    · rw[e];simp
theorem NumP.not_e (h:NumP s sg W F FR P EX) (k:UInt8) (hk:Cu k=false) (h46:k≠46):(W++FR).contains k=false:=by
  rw[Ui,P7 hk h.Wd,Bool.false_or]
  rcases h.fr with⟨e1,e2⟩|e
  · rw[e1];rfl
  · rw[e,List.contains_cons,P7 hk h.Fd,Bool.or_false]
    simpa using h46
theorem UL (h:NumP s sg W F FR P EX) (hn:Cz s=s.length) (hb:s.length≤2^48) (hN:s.length+30<N):EN N s=some (GN sg (W++F) (I1 (2^40) P-F.length)):=by
  obtain⟨l1,l2,l3⟩:=h.len
  have hne:s≠ []:=by
    rw[h.eq]
    have:=h.Wn
    intro e
    have:=List.append_eq_nil_iff.1 e
    have:=List.append_eq_nil_iff.1 this.2
    exact h.Wn this.1
  have hpos:s.length≠0:=fun e=>hne (List.length_eq_zero_iff.1 e)
  unfold EN
  have hp:=Ro (N:=N) (l:=s) (t:=s) (i:=0) (by simp) (by omega) (by omega)
  rw[if_neg (by rw[hn];exact hpos)]at hp
  have hp':Cm N (TokenReader.mk s 0)=some (s.take (Cz s),true,(⟨s,((0+Cz s:Nat):Int)⟩:TokenReader)):=hp
  rw[hp',Option.bind_some]
  refine(CK (a:=false) fun k4=>?_).trans ?_
  · rw[if_pos rfl,hn,List.take_of_length_le (Nat.le_refl _)];simp
  try dsimp only
  rw[if_neg (by decide)]
  have hhead: ∀k7:List UInt8×List UInt8→Option (List UInt8×Int),(Option.bind (idx s 0) fun x11=>if(Am x11==45)=true then Option.bind (sub s 1 (s.length:Int)) fun x12=>k7 ([45],x12)else k7 ([],s))=k7 (sg,W++(FR++EX)):=by
    intro k7
    rcases h.sg with e|e
    · have hs:s=W++(FR++EX):=by rw[h.eq,e];rfl
      cases hW:W with
      |nil=>exact absurd hW h.Wn
      | cons c W'=>
        have hc:Cu c=true:=by
          have:=h.Wd
          rw[hW,List.all_cons,Bool.and_eq_true]at this
          exact this.1
        have hs2:s=c::(W'++(FR++EX)):=by rw[hs,hW];rfl
        rw[hs2,show idx (c::(W'++(FR++EX))) 0=some c from rfl,Option.bind_some,AFA,M9]
        have:=J5 hc
        have: ¬c.toNat=(45:UInt8).toNat:=by show¬c.toNat=45;omega
        rw[if_neg (by simpa using this),e];rfl
    · have hs2:s=45::(W++(FR++EX)):=by rw[h.eq,e];rfl
      rw[hs2,show idx (45::(W++(FR++EX))) 0=some 45 from rfl,Option.bind_some,if_pos (by rfl),Ji,Option.bind_some,e]
  refine(CK (a:=(sg,W++(FR++EX))) fun k8=>hhead k8).trans ?_
  try dsimp only
  rw[lower_eq _ (by simp;omega),Option.bind_some]
  have hWF:(W++FR).map Kj=W++FR:=by
    rw[List.map_append,WQ h.Wd]
    rcases h.fr with⟨e1,e2⟩|e
    · rw[e1];rfl
    · rw[e,List.map_cons,WQ h.Fd];rfl
  have hlow:R9 101 ((W++(FR++EX)).map Kj)=(W++FR,P,(R9 101 ((W++(FR++EX)).map Kj)).2.2):=by
    rw[←List.append_assoc,List.map_append,hWF]
    have hc:=h.not_e 101 (by decide) (by decide)
    rcases h.ex with⟨e1,e2⟩|e|e
    · rw[e1,e2,List.map_nil,List.append_nil,AB9 hc]
    · rw[e,List.map_cons,ACK h.pw,show Kj 101=101 from rfl,VK hc]
    · rw[e,List.map_cons,ACK h.pw,show Kj 69=101 from rfl,VK hc]
  rw[AFv 101 _ (by simp;omega),Option.bind_some,hlow]
  try dsimp only
  have hcut2:R9 46 (W++FR)=(W,F,(R9 46 (W++FR)).2.2):=by
    have hc:=P7 (k:=46) (by decide) h.Wd
    rcases h.fr with⟨e1,e2⟩|e
    · rw[e1,e2,List.append_nil,AB9 hc]
    · rw[e,VK hc]
  rw[AFv 46 _ (by simp;omega),Option.bind_some,hcut2]
  try dsimp only
  rw[AZ (by unfold Bf;omega),AFz 48 (W++F) (by decide) (by simp;omega),Option.bind_some]
  have hml:=(List.dropWhile_sublist (fun x:UInt8=>x==48) (l:=W++F)).length_le
  rw[List.length_append]at hml
  have htl:=QY (fun x:UInt8=>x==48) ((W++F).dropWhile (fun x:UInt8=>x==48))
  rw[AGB 48 _ (by decide) (by omega) (by omega),Option.bind_some]
  unfold GN
  dsimp only
  generalize hm1:(W++F).dropWhile (fun x:UInt8=>x==48)=m1 at *
  generalize hsh:En (fun x:UInt8=>x==48) m1=sh at *
  try dsimp only
  by_cases hz:sh=[]
  · rw[if_pos (by simpa using hz),if_pos hz]
  rw[if_neg (by simpa using hz),if_neg hz,AIA h.pw (by omega) (by omega),Option.bind_some]
  have hev: -(2^40:Int)≤I1 (2^40) P∧I1 (2^40) P≤(2^40:Int):=by
    unfold I1
    have:min (Ey 0 (P.dropWhile ([43,45]:List UInt8).contains)) (2^40)≤2^40:=Nat.min_le_right _ _
    split<;>omega
  generalize I1 (2^40) P=x at *
  have hw:wr .i64 (wr .i64 (wr .i64 (x-(F.length:Int))+(m1.length:Int))-(sh.length:Int))=x-(F.length:Int)+(m1.length:Int)-(sh.length:Int):=by
    rw[Ak (n:=x-(F.length:Int)) (by omega),Ak (n:=x-(F.length:Int)+(m1.length:Int)) (by omega),Ak (by omega)]
  rw[hw]
  generalize hy:x-(F.length:Int)+(m1.length:Int)-(sh.length:Int)=y at *
  have hsg:sg.length≤1:=by rcases h.sg with e|e<;>rw[e]<;>simp
  refine(CK (a:=decide (sh.length>40∨y< -400∨y>400)) fun k26=>?_).trans ?_
  · by_cases c1:(sh.length:Int)>40
    · rw[if_pos (decide_eq_true c1),decide_eq_true (.inl (by omega))]
    · rw[if_neg (by simpa using c1)]
      by_cases c2:y< -400
      · rw[if_pos (decide_eq_true c2),decide_eq_true (.inr (.inl c2))]
      · rw[if_neg (by simpa using c2)]
        congr 1
        simp only[eq_iff_iff,decide_eq_decide];omega
  try dsimp only
  by_cases hc:sh.length>40∨y< -400∨y>400
  · rw[if_pos (decide_eq_true hc),if_pos hc]
  rw[if_neg (by simpa using hc),if_neg hc]
  have hc': ¬(sh.length>40)∧ ¬y< -400∧ ¬y>400:=⟨fun h=>hc (.inl h),fun h=>hc (.inr (.inl h)),fun h=>hc (.inr (.inr h))⟩
  have hf:=QZ
  unfold Lb
  by_cases c1:y<0
  · rw[if_pos (decide_eq_true c1),if_pos c1,AZ (by unfold Bf;omega),AZ (by unfold Bf;simp;omega),Ak (by omega),QA (by omega) (by omega),QV _ (by omega) (by omega),Option.bind_some]
    have:=hf (0-y).toNat
    have:=hf (-y).toNat
    rw[AZ (by unfold Bf;simp;omega),show(0-y).toNat=(-y).toNat by omega]
    simp
  · rw[if_neg (by simpa using c1),if_neg c1]
    by_cases c2:y>0
    · have:=hf y.toNat
      rw[if_pos (decide_eq_true c2),if_pos c2,AZ (by unfold Bf;omega),AZ (by unfold Bf;simp;omega),QA (by omega) (by omega),QV _ (by omega) (by omega),Option.bind_some,AZ (by unfold Bf;simp;omega)]
      simp
    · rw[if_neg (by simpa using c2),if_neg c2,AZ (by unfold Bf;omega)]
      simp
end
end
end Go.VM
namespace Go.VM
section
variable{N:Nat}
theorem ABo (k29:List UInt8→Option (List UInt8×Int)): ∀(l:List UInt8) (k:Nat),l.length<k→EC N k29 k l=k29 (l.dropWhile (· ==48))
  |[],k+1,_=>by rw[EC,AR];rfl
  | x::l,k+1,h=>by
    simp only[List.length_cons]at h
    rw[EC,AR,if_pos (by simp<;>omega),show idx (x::l) 0=some x from rfl,Option.bind_some,List.dropWhile_cons]
    try dsimp only
    rw[show(Am x==48)=(x==48)from N9 x 48]
    cases x==48
    · rfl
    · rw[if_pos rfl,Ji,Option.bind_some,ABo k29 l k (by omega)];rfl
theorem ACB (k40:Int×List UInt8→Option (List UInt8×Int)): ∀(n:Nat) (l:List UInt8) (x:Int),l.length=n→n≤2^50→(∃c r,l=c::r∧(c==48)=false)→ -(2^60)≤x→x+n≤2^60→ ∀k:Nat,n<k→EZ N k40 k x l=k40 (x+l.length-(En (· ==48) l).length,En (· ==48) l)
  |0,l,x,hl,hb,⟨c,r,e,hc⟩,h1,h3,k,hk=>by rw[e]at hl;simp at hl
  |n+1,l,x,hl,hb,hh,h1,h3,0,hk=>by omega
  | n+1,l,x,hl,hb,hh,h1,h3,k+1,hk=>by
    obtain⟨l',y,rfl⟩: ∃l' y,l=l'++[y]:=by
      have hne:l≠ []:=fun e=>by subst e;simp at hl
      exact⟨l.dropLast,l.getLast hne,(List.dropLast_concat_getLast hne).symm⟩
    have hl':l'.length=n:=by simpa using hl
    rw[EZ,Zd l' y (by omega),Option.bind_some,Jl,show(Am y==48)=(y==48)from N9 y 48]
    by_cases hy:(y==48)=true
    · rw [if_pos hy,if_pos hy,WV l' y (by omega),Option.bind_some,Ak (by omega)]
      have hh': ∃c r,l'=c::r∧(c==48)=false:=by
        obtain⟨c,r,e,hc⟩:=hh
        cases l' with
        | nil=>
          simp only[List.nil_append,List.cons.injEq]at e
          rw[e.1,hc]at hy;cases hy
        | cons a l'=>
          simp only[List.cons_append,List.cons.injEq]at e
          exact⟨a,l',rfl,by rw[e.1];exact hc⟩
      rw[ACB k40 n l' (x+1) hl' (by omega) hh' (by omega) (by omega) k (by omega)]
      congr 2
      simp only[List.length_append,List.length_cons,List.length_nil];omega
    · rw[if_neg hy,if_neg hy]
      congr 2;omega
theorem PL (set:List UInt8) (hs:set.length≤1000) (k2:Unit→Option Int) (n:Int) (h:k2 ()=some n): ∀(l:List UInt8) (i:Nat),((i+l.length:Nat):Int)=n→Dn N set k2 l (i:Int)=some ((i+(l.takeWhile fun c=>!set.contains c).length:Nat):Int)
  |[],i,hn=>by rw[Dn,h,←hn];simp
  | c::l,i,hn=>by
    rw[Dn,Oa _ _ hs,Option.bind_some,List.takeWhile_cons]
    cases hc:set.contains c
    · simp only[List.length_cons]at hn
      rw[if_neg (by decide),show(i:Int)+1=((i+1:Nat):Int) by simp,PL set hs k2 n h l (i+1) (by rw[←hn];congr 1;omega)]
      simp only[Bool.not_false,if_true,List.length_cons];congr 2;omega
    · simp
theorem TE (l set:List UInt8) (hs:set.length≤1000) (hb:l.length≤2^60):H7 N l set=some (((l.takeWhile fun c=>!set.contains c).length:Nat):Int):=by
  unfold H7
  rw[AR,AZ (by unfold Bf;omega),show(0:Int)=((0:Nat):Int)from rfl,PL set hs _ _ rfl l 0 (by simp)]
  simp
theorem Ol{p:UInt8→Bool}: ∀ {a b:List UInt8},(∀c∈a,p c=true)→(b=[]∨ ∃c r,b=c::r∧p c=false)→(a++b).takeWhile p=a
  | [],b,_,hb=>by
    rcases hb with rfl|⟨c,r,rfl,hc⟩
    · rfl
    · rw[List.nil_append,List.takeWhile_cons,hc];rfl
  | x::a,b,ha,hb=>by
    rw[List.cons_append,List.takeWhile_cons,ha x (by simp),if_pos rfl,Ol (fun c hc=>ha c (by simp[hc])) hb]
section
variable{s sg W F FR P EX:List UInt8}
theorem Uh{l:List UInt8} (h:l.all Cu=true): ∀c∈l,Cu c=true:=by simpa using h
theorem ACN{c:UInt8} (h:Cu c=true):([101,69]:List UInt8).contains c=false:=by
  have:=FV (f:=fun n=>if(decide (48≤n)&&decide (n≤57))=true then([101,69]:List UInt8).contains (UInt8.ofNat n)else false) (g:=fun _=>false) (by kernel_rfl) c
  simp only[UInt8.ofNat_toNat,show(decide (48≤c.toNat)&&decide (c.toNat≤57))=true from h,if_true]at this
  exact this
theorem AJ9{c:UInt8} (h:Cu c=true):([46]:List UInt8).contains c=false:=by
  rw[M9]
  have:=J5 h
  have: ¬c.toNat=(46:UInt8).toNat:=by show¬c.toNat=46;omega
  simpa using this
theorem AKE (h:NumP s sg W F FR P EX) (hn:Cz s=s.length) (hb:s.length≤2^48) (hN:s.length+30<N):D6 N s=some (GN sg (W++F) (I1 (2^30) P-F.length)):=by
  obtain⟨l1,l2,l3⟩:=h.len
  have hne:s≠ []:=by
    rw[h.eq]
    intro e
    have:=List.append_eq_nil_iff.1 e
    have:=List.append_eq_nil_iff.1 this.2
    exact h.Wn this.1
  unfold D6
  refine(CK (a:=false) fun k2=>?_).trans ?_
  · rw[if_neg (by simpa using hne),MC s (by omega) (by omega),Option.bind_some,hn];simp
  try dsimp only
  rw[if_neg (by decide)]
  have hhead: ∀k8:List UInt8×List UInt8→Option (List UInt8×Int),(Option.bind (idx s 0) fun x11=>if(Am x11==45)=true then Option.bind (sub s 1 (s.length:Int)) fun x12=>k8 (x12,[45])else k8 (s,[]))=k8 (W++(FR++EX),sg):=by
    intro k7
    rcases h.sg with e|e
    · have hs:s=W++(FR++EX):=by rw[h.eq,e];rfl
      cases hW:W with
      |nil=>exact absurd hW h.Wn
      | cons c W'=>
        have hc:Cu c=true:=by
          have:=h.Wd
          rw[hW,List.all_cons,Bool.and_eq_true]at this
          exact this.1
        have hs2:s=c::(W'++(FR++EX)):=by rw[hs,hW];rfl
        rw[hs2,show idx (c::(W'++(FR++EX))) 0=some c from rfl,Option.bind_some,AFA,M9]
        have:=J5 hc
        have: ¬c.toNat=(45:UInt8).toNat:=by show¬c.toNat=45;omega
        rw[if_neg (by simpa using this),e];rfl
    · have hs2:s=45::(W++(FR++EX)):=by rw[h.eq,e];rfl
      rw[hs2,show idx (45::(W++(FR++EX))) 0=some 45 from rfl,Option.bind_some,if_pos (by rfl),Ji,Option.bind_some,e]
  refine(CK (a:=(W++(FR++EX),sg)) fun k8=>hhead k8).trans ?_
  try dsimp only
  have hWF:(W++(FR++EX)).takeWhile (fun c=>!([101,69]:List UInt8).contains c)=W++FR:=by
    rw[←List.append_assoc]
    refine Ol (fun c hc=>?_) ?_
    · rcases List.mem_append.1 hc with hc|hc
      · rw[ACN (Uh h.Wd c hc)];rfl
      · rcases h.fr with⟨e1,e2⟩|e
        · rw[e1]at hc;cases hc
        · rw[e]at hc
          rcases List.mem_cons.1 hc with rfl|hc
          · rfl
          · rw[ACN (Uh h.Fd c hc)];rfl
    · rcases h.ex with⟨e1,e2⟩|e|e
      · exact .inl e1
      · exact .inr ⟨_,_,e,rfl⟩
      · exact .inr ⟨_,_,e,rfl⟩
  have hlen:(W++(FR++EX)).length=(W++FR).length+EX.length:=by simp only[List.length_append];omega
  rw[TE _ _ (by decide) (by simp;omega),Option.bind_some,hWF,Ak (by simp;omega),show(((W++FR).length:Nat):Int)+1=(((W++FR).length+1:Nat):Int) by simp,Rm,Option.bind_some]
  have hP:(W++(FR++EX)).drop ((W++FR).length+1)=P:=by
    rw[←List.append_assoc,List.drop_append,List.drop_of_length_le (by omega),List.nil_append,Nat.add_sub_cancel_left]
    rcases h.ex with⟨e1,e2⟩|e|e
    · rw[e1,e2];rfl
    · rw[e];rfl
    · rw[e];rfl
  rw[hP,AIy h.pw (by omega),Option.bind_some]
  have hsub:sub (W++(FR++EX)) 0 (((W++FR).length:Nat):Int)=some (W++FR):=by
    rw[show(0:Int)=((0:Nat):Int)from rfl,FE _ 0 _ (by omega) (by omega),←List.append_assoc]
    simp only[List.drop_zero,Nat.sub_zero,List.take_left]
  rw[hsub,Option.bind_some]
  have hev: -(2^30:Int)≤I1 (2^30) P∧I1 (2^30) P≤(2^30:Int):=by
    unfold I1
    have:min (Ey 0 (P.dropWhile ([43,45]:List UInt8).contains)) (2^30)≤2^30:=Nat.min_le_right _ _
    split<;>omega
  generalize I1 (2^30) P=x at *
  have hdot:(W++FR).takeWhile (fun c=>!([46]:List UInt8).contains c)=W:=by
    refine Ol (fun c hc=>?_) ?_
    · rw[AJ9 (Uh h.Wd c hc)];rfl
    · rcases h.fr with⟨e1,e2⟩|e
      · exact .inl e1
      · exact .inr ⟨_,_,e,rfl⟩
  refine(CK (a:=(x-(F.length:Int),W++F)) fun k21=>?_).trans ?_
  · rw [TE _ _ (by decide) (by simp;omega),Option.bind_some,hdot]
    rcases h.fr with⟨e1,e2⟩|e
    · rw[e1,e2,List.append_nil,if_neg (by simp)];simp
    · have hfl:FR.length=F.length+1:=by rw[e];simp
      have w1:wr .i64 ((W.length:Int)+1)=((W.length+1:Nat):Int):=by rw[Ak (by omega)];simp
      have s1:sub (W++FR) 0 (W.length:Int)=some W:=by
        rw[show(0:Int)=((0:Nat):Int)from rfl,FE _ 0 _ (by omega) (by simp)];simp only[List.drop_zero,Nat.sub_zero,List.take_left]
      have s2:sub (W++FR) ((W.length+1:Nat):Int) (((W++FR).length:Nat):Int)=some F:=by
        rw[FE _ _ _ (by simp;omega) (Nat.le_refl _),List.take_of_length_le (by simp<;>omega),List.drop_append,List.drop_of_length_le (by omega),List.nil_append,Nat.add_sub_cancel_left,e];rfl
      rw[if_pos (by simp;omega),s1,Option.bind_some,w1,s2,Option.bind_some,AZ (by unfold Bf;omega)]
      have w2:wr .i64 (x-wr .i64 (wr .i64 ((((W++FR).length:Nat):Int)-(W.length:Int))-1))=x-(F.length:Int):=by
        rw[List.length_append,Ak (n:=((W.length+FR.length:Nat):Int)-(W.length:Int)) (by omega),Ak (n:=((W.length+FR.length:Nat):Int)-(W.length:Int)-1) (by omega),Ak (by omega)]
        omega
      rw[w2]
  try dsimp only
  have hml:=(List.dropWhile_sublist (fun x:UInt8=>x==48) (l:=W++F)).length_le
  rw[List.length_append]at hml
  refine(CK (a:=(W++F).dropWhile (· ==48)) fun k29=>ABo k29 (W++F) N (by simp;omega)).trans ?_
  try dsimp only
  have hhd:(W++F).dropWhile (fun x:UInt8=>x==48)=[]∨ ∃c r,(W++F).dropWhile (fun x:UInt8=>x==48)=c::r∧(c==48)=false:=by
    generalize W++F=l
    induction l with
    |nil=>exact .inl rfl
    | cons c l ih=>
      rw[List.dropWhile_cons]
      cases hc:(c==48)
      · exact .inr ⟨c,l,rfl,hc⟩
      · exact ih
  have htl:=QY (fun x:UInt8=>x==48) ((W++F).dropWhile (fun x:UInt8=>x==48))
  unfold GN
  dsimp only
  generalize hm1:(W++F).dropWhile (fun x:UInt8=>x==48)=m1 at *
  by_cases hz:m1=[]
  · subst hz;rfl
  have hhd': ∃c r,m1=c::r∧(c==48)=false:=by
    rcases hhd with e|e
    · exact absurd e hz
    · exact e
  have hsz:En (fun x:UInt8=>x==48) m1≠ []:=by
    obtain⟨c,r,rfl,hc⟩:=hhd'
    have key: ∀(n:Nat) (r:List UInt8),r.length=n→En (fun x:UInt8=>x==48) (c::r)≠ []:=by
      intro n
      induction n with
      | zero=>
        intro r hr
        have:r=[]:=List.length_eq_zero_iff.1 hr
        subst this
        unfold En;simp[hc]
      | succ n ih=>
        intro r hr
        obtain⟨r',y,rfl⟩: ∃l' y,r=l'++[y]:=by
          have hne:r≠ []:=fun e=>by subst e;simp at hr
          exact⟨r.dropLast,r.getLast hne,(List.dropLast_concat_getLast hne).symm⟩
        rw[←List.cons_append,Jl]
        split
        · exact ih r' (by simpa using hr)
        · simp
    exact key _ r rfl
  rw[if_neg (by simpa using hz),if_neg hsz]
  refine(CK (a:=(x-(F.length:Int)+(m1.length:Int)-((En (fun x:UInt8=>x==48) m1).length:Int),En (fun x:UInt8=>x==48) m1)) fun k40=>ACB k40 m1.length m1 _ rfl (by omega) hhd' (by omega) (by omega) N (by omega)).trans ?_
  try dsimp only
  generalize hsh:En (fun x:UInt8=>x==48) m1=sh at *
  generalize hy:x-(F.length:Int)+(m1.length:Int)-(sh.length:Int)=y at *
  have hsg:sg.length≤1:=by rcases h.sg with e|e<;>rw[e]<;>simp
  refine(CK (a:=decide (sh.length>40∨y< -400∨y>400)) fun k26=>?_).trans ?_
  · by_cases c1:(sh.length:Int)>40
    · rw[if_pos (decide_eq_true c1),decide_eq_true (.inl (by omega))]
    · rw[if_neg (by simpa using c1)]
      by_cases c2:y>400
      · rw[if_pos (decide_eq_true c2),decide_eq_true (.inr (.inr c2))]
      · rw[if_neg (by simpa using c2)]
        congr 1
        simp only[eq_iff_iff,decide_eq_decide];omega
  try dsimp only
  by_cases hc:sh.length>40∨y< -400∨y>400
  · rw[if_pos (decide_eq_true hc),if_pos hc]
  rw[if_neg (by simpa using hc),if_neg hc]
  have hc': ¬(sh.length>40)∧ ¬y< -400∧ ¬y>400:=⟨fun h=>hc (.inl h),fun h=>hc (.inr (.inl h)),fun h=>hc (.inr (.inr h))⟩
  have hf:=QZ
  unfold Lb
  by_cases c1:y<0
  · rw[if_pos (decide_eq_true c1),if_pos c1,AZ (by unfold Bf;omega),AZ (by unfold Bf;simp;omega),Ak (by omega),QA (by omega) (by omega),Ry _ (by omega) (by omega),Option.bind_some]
    have:=hf (0-y).toNat
    have:=hf (-y).toNat
    rw[AZ (by unfold Bf;simp;omega),show(0-y).toNat=(-y).toNat by omega]
    simp
  · rw[if_neg (by simpa using c1),if_neg c1]
    by_cases c2:y>0
    · have:=hf y.toNat
      rw[if_pos (decide_eq_true c2),if_pos c2,AZ (by unfold Bf;omega),AZ (by unfold Bf;simp;omega),QA (by omega) (by omega),Ry _ (by omega) (by omega),Option.bind_some,AZ (by unfold Bf;simp;omega)]
      simp
    · rw[if_neg (by simpa using c2),if_neg c2,AZ (by unfold Bf;omega)]
      simp
end
theorem AF6 (s:List UInt8) (hn:s=[]∨Cz s≠s.length) (hb:s.length≤2^48):EN N s=some ([],130):=by
  unfold EN
  have hp:=Ro (N:=N) (l:=s) (t:=s) (i:=0) (by simp) (by omega) (by omega)
  by_cases hz:Cz s=0
  · rw[if_pos hz]at hp
    obtain⟨q,hq⟩:=hp
    have hq':Cm N (TokenReader.mk s 0)=some ([],false,q):=hq
    rw[hq',Option.bind_some];rfl
  · rw[if_neg hz]at hp
    have hp':Cm N (TokenReader.mk s 0)=some (s.take (Cz s),true,(⟨s,((0+Cz s:Nat):Int)⟩:TokenReader)):=hp
    rw[hp',Option.bind_some]
    refine(CK (a:=true) fun k4=>?_).trans rfl
    have hle:=P6 s
    have hne:Cz s≠s.length:=by
      rcases hn with rfl|h
      · exact absurd rfl hz
      · exact h
    rw[if_pos rfl,List.length_take,Nat.min_eq_left hle]
    congr 1
    simp only[bne_iff_ne,ne_eq];omega
theorem AFl (s:List UInt8) (hn:s=[]∨Cz s≠s.length) (hb:s.length≤2^48) (hN:s.length+30<N):D6 N s=some ([],130):=by
  unfold D6
  refine(CK (a:=true) fun k2=>?_).trans rfl
  by_cases h:s=[]
  · subst h;rfl
  · have hne:Cz s≠s.length:=by
      rcases hn with e|e
      · exact absurd e h
      · exact e
    rw[if_neg (by simpa using h),MC s (by omega) (by omega),Option.bind_some]
    congr 1
    simp only[bne_iff_ne,ne_eq];omega
end
end Go.VM
namespace Go.VM
theorem RQ{p:UInt8→Bool} (l:List UInt8):(l.dropWhile p).length≤l.length:=(List.dropWhile_sublist p (l:=l)).length_le
theorem XG{sg m:List UInt8}{x y:Int} (hm:m.length≤2000000) (h:x=y∨(100000000≤x∧100000000≤y)∨(x≤ -100000000∧y≤ -100000000)):GN sg m x=GN sg m y:=by
  unfold GN
  dsimp only
  have h1:=RQ (p:=fun x:UInt8=>x==48) m
  have h2:=QY (fun x:UInt8=>x==48) (m.dropWhile (fun x:UInt8=>x==48))
  generalize m.dropWhile (fun x:UInt8=>x==48)=m1 at *
  generalize En (fun x:UInt8=>x==48) m1=sh at *
  by_cases hz:sh=[]
  · rw[if_pos hz,if_pos hz]
  · rw[if_neg hz,if_neg hz]
    rcases h with rfl|⟨ha,hb⟩|⟨ha,hb⟩
    · rfl
    · rw[if_pos (.inr (.inr (by omega))),if_pos (.inr (.inr (by omega)))]
    · rw[if_pos (.inr (.inl (by omega))),if_pos (.inr (.inl (by omega)))]
theorem AEy (P:List UInt8) (f:Nat) (hf:f≤2000000):I1 (2^40) P-f=I1 (2^30) P-f∨(100000000≤I1 (2^40) P-f∧100000000≤I1 (2^30) P-f)∨(I1 (2^40) P-f≤ -100000000∧I1 (2^30) P-f≤ -100000000):=by
  unfold I1
  generalize Ey 0 (P.dropWhile ([43,45]:List UInt8).contains)=v
  by_cases h:v≤2^30
  · rw[Nat.min_eq_left (show v≤2^40 by omega),Nat.min_eq_left h];exact .inl rfl
  · rw[Nat.min_eq_right (show 2^30≤v by omega)]
    have h2:2^30≤min v (2^40):=Nat.le_min.2 ⟨by omega,by decide⟩
    split
    · exact .inr (.inr ⟨by omega,by omega⟩)
    · exact .inr (.inl ⟨by omega,by omega⟩)
theorem AAc (sg m:List UInt8) (x:Int):(GN sg m x).2=0∨GN sg m x=([],144):=by
  unfold GN
  dsimp only
  split
  · exact .inl rfl
  · split
    · exact .inr rfl
    · exact .inl rfl
def Ut (N:Nat) (s:List UInt8):List UInt8×Int:=(EN N s).getD ([],144)
theorem AGd{N:Nat}{s:List UInt8} (h0:s≠ []) (hn:Cz s=s.length) (hb:s.length≤2000000) (hN:s.length+30<N):
    EN N s=some (Ut N s)∧D6 N s=some (Ut N s)∧((Ut N s).2=0∨Ut N s=([],144)):=by
  obtain⟨sg,W,F,FR,P,EX,h⟩:=OI h0 hn
  obtain⟨l1,l2,l3⟩:=h.len
  have e1:=UL (N:=N) h hn (by omega) hN
  have e2:=AKE (N:=N) h hn (by omega) hN
  have e3:Ut N s=GN sg (W++F) (I1 (2^40) P-F.length):=by unfold Ut;rw[e1];rfl
  refine⟨by rw[e3];exact e1,?_,by rw[e3];exact AAc _ _ _⟩
  rw[e2,e3,XG (by rw[List.length_append];omega) (AEy P F.length (by omega))]
theorem Ir{set t:List UInt8}{n:Nat} (h:0<n):CV set (t.take n)=CV set t:=by
  cases t with
  |nil=>simp
  | cons c t=>
    obtain⟨n,rfl⟩: ∃k,n=k+1:=⟨n-1,by omega⟩
    rfl
theorem Qp (p:UInt8→Bool): ∀(t:List UInt8) (n:Nat),((t.take n).takeWhile p).length=min (t.takeWhile p).length n
  |[],n=>by simp
  |c::t,0=>by simp
  | c::t,n+1=>by
    simp only[List.take_succ_cons,List.takeWhile_cons]
    cases p c
    · simp
    · simp only[if_true,List.length_cons,Qp p t n];omega
theorem MO (t:List UInt8) (n:Nat):De (t.take n)=min (De t) n:=Qp _ _ _
theorem Hu (t:List UInt8) (a n:Nat):(t.take n).drop a=(t.drop a).take (n-a):=by rw[List.drop_take]
theorem AEJ{t:List UInt8}{n:Nat} (h:CY t≤n) (hn:0<n):CY (t.take n)=CY t:=by
  unfold CY at *
  rw[Ir hn]
  split
  · rfl
  · rename_i hz;rw[if_neg hz]at h;rw[MO];omega
theorem ABE{t:List UInt8}{n:Nat} (h:DK t≤n):DK (t.take n)=DK t:=by
  unfold DK at *
  by_cases h1:CV [46] t=true∧0<De (t.drop 1)
  · rw[if_pos h1]at h⊢
    have e:De ((t.take n).drop 1)=De (t.drop 1):=by rw[Hu,MO];omega
    rw[if_pos ⟨by rw[Ir (by omega)];exact h1.1,by rw[e];exact h1.2⟩,e]
  · rw [if_neg h1]
    refine if_neg fun h2=>h1 ⟨?_,?_⟩
    · have:0<n:=by
        rcases Nat.eq_zero_or_pos n with e|e
        · subst e;simp[CV]at h2
        · exact e
      rw[Ir this]at h2;exact h2.1
    · have:=h2.2;rw[Hu,MO]at this;omega
theorem AEE{t:List UInt8}:Gp (t.take (Gp t))=Gp t:=by
  unfold Gp
  by_cases h1:CV [101,69] t=true∧0<De (t.drop (1+Fg t))
  · rw[if_pos h1]
    have h12:=h1.2
    have hg: ∀n,1<n→Fg (t.take n)=Fg t:=fun n hn=>by
      unfold Fg
      rw[Hu,Ir (by omega)]
    have e:De ((t.take (1+Fg t+De (t.drop (1+Fg t)))).drop (1+Fg t))=De (t.drop (1+Fg t)):=by rw[Hu,MO];omega
    rw[hg _ (by omega),e,if_pos ⟨by rw[Ir (by omega)];exact h1.1,h1.2⟩]
  · rw[if_neg h1,List.take_zero]
    exact if_neg fun h=>by simp[CV]at h
theorem ADA (t:List UInt8):Cz (t.take (Cz t))=Cz t:=by
  by_cases hz:CY (t.drop (Ac t))=0
  · have e:Cz t=0:=by unfold Cz;rw[if_pos hz]
    rw[e,List.take_zero];rfl
  · have e:Cz t=Ac t+CY (t.drop (Ac t))+DK (t.drop (Ac t+CY (t.drop (Ac t))))+Gp (t.drop (Ac t+CY (t.drop (Ac t))+DK (t.drop (Ac t+CY (t.drop (Ac t)))))):=by
      unfold Cz;rw[if_neg hz]
    generalize hn:Cz t=n at *
    have hs:Ac (t.take n)=Ac t:=by unfold Ac;rw[Ir (by omega)]
    have hi:CY ((t.take n).drop (Ac t))=CY (t.drop (Ac t)):=by rw[Hu];exact AEJ (by omega) (by omega)
    have hf:DK ((t.take n).drop (Ac t+CY (t.drop (Ac t))))=DK (t.drop (Ac t+CY (t.drop (Ac t)))):=by rw[Hu];exact ABE (by omega)
    have he:Gp ((t.take n).drop (Ac t+CY (t.drop (Ac t))+DK (t.drop (Ac t+CY (t.drop (Ac t))))))=Gp (t.drop (Ac t+CY (t.drop (Ac t))+DK (t.drop (Ac t+CY (t.drop (Ac t)))))):=by
      rw[Hu]
      have:n-(Ac t+CY (t.drop (Ac t))+DK (t.drop (Ac t+CY (t.drop (Ac t)))))=Gp (t.drop (Ac t+CY (t.drop (Ac t))+DK (t.drop (Ac t+CY (t.drop (Ac t)))))):=by omega
      rw[this];exact AEE
    unfold Cz
    rw[hs,hi,if_neg hz,hf,he]
    exact e.symm
end Go.VM
namespace Go.VM
mutual
def FJ:ApiValue→Nat
  |⟨kind,_,_,items⟩=>(if kind==6||kind==7 then 1 else 0)+Co items
def Co:List ApiValue→Nat
  |[]=>0
  |x::xs=>max (FJ x) (Co xs)
end
theorem FW (v:ApiValue):FJ v=(if v.kind==6||v.kind==7 then 1 else 0)+Co v.items:=by cases v;rw[FJ]
theorem NQ (v:ApiValue):0<II v:=by rw[Ib];omega
section
variable{N:Nat}
def OC (N:Nat) (s:List UInt8):List UInt8×Int:=if s≠ []∧Cz s=s.length then Ut N s else([],130)
theorem U6 (s:List UInt8) (hb:s.length≤2000000) (hN:s.length+30<N):D6 N s=some (OC N s)∧EN N s=some (OC N s):=by
  unfold OC
  by_cases h:s≠ []∧Cz s=s.length
  · rw[if_pos h]
    obtain⟨h1,h2,_⟩:=AGd h.1 h.2 hb hN
    exact⟨h2,h1⟩
  · rw[if_neg h]
    have hb':s=[]∨Cz s≠s.length:=by
      by_cases h1:s=[]
      · exact .inl h1
      · exact .inr fun h2=>h ⟨h1,h2⟩
    exact⟨AFl s hb' (by omega) hN,AF6 s hb' (by omega)⟩
def KY (N:Nat) (s:List UInt8):Bool:=(OC N s).2==0&&(OC N s).1==s
mutual
def FL (N:Nat):ApiValue→Bool
  | ⟨kind,text,keys,items⟩=>
    if kind==1||kind==2||kind==3 then text==[]&&keys.isEmpty&&items.isEmpty
    else if kind==4 then KY N text&&keys.isEmpty&&items.isEmpty
    else if kind==5 then(C9 N text).isSome&&keys.isEmpty&&items.isEmpty
    else if kind==6 then text==[]&&keys.isEmpty&&J4 N items
    else if kind==7 then text==[]&&decide (keys.length=items.length)&&Jn N keys&&J4 N items
    else false
def J4 (N:Nat):List ApiValue→Bool
  |[]=>true
  |x::xs=>FL N x&&J4 N xs
end
end
end Go.VM
namespace Go.VM
mutual
def CO:ApiValue→ApiValue
  |⟨kind,text,keys,items⟩=>if kind==6 then⟨kind,text,[],XA items⟩else⟨kind,text,Il keys,(Il keys).map fun k=>(Gn keys (XA items) k).1⟩
def XA:List ApiValue→List ApiValue
  |[]=>[]
  |x::xs=>CO x::XA xs
end
theorem Kk: ∀xs:List ApiValue,XA xs=xs.map CO
  |[]=>rfl
  |x::xs=>by rw[XA,Kk xs];rfl
mutual
def wrV:ApiValue→List UInt8
  | ⟨kind,text,keys,items⟩=>
    if kind==1 then [110,117,108,108]else if kind==2 then [102,97,108,115,101]else if kind==3 then [116,114,117,101]else if kind==4 then text
    else if kind==5 then DT text else if kind==7 then 123::(wrM true keys items++[125])else 91::(wrI true items++[93])
def wrI:Bool→List ApiValue→List UInt8
  |_,[]=>[]
  |b,x::xs=>(if b then []else [44])++(wrV x++wrI false xs)
def wrM:Bool→List (List UInt8)→List ApiValue→List UInt8
  |b,k::ks,x::xs=>(if b then []else [44])++(DT k++(58::(wrV x++wrM false ks xs)))
  |_,_,_=>[]
end
theorem MZ{N:Nat}: ∀ {xs:List ApiValue},J4 N xs=true→ ∀x,x∈xs→FL N x=true
  |[],_,x,hx=>by cases hx
  | y::xs,h,x,hx=>by
    rw[J4,Bool.and_eq_true]at h
    rcases List.mem_cons.1 hx with rfl|hx
    · exact h.1
    · exact MZ h.2 x hx
theorem RD{N:Nat}: ∀ {xs:List ApiValue},(∀x,x∈xs→FL N x=true)→J4 N xs=true
  |[],_=>rfl
  |y::xs,h=>by rw[J4,h y (by simp),RD fun x hx=>h x (by simp[hx])];rfl
inductive Shp (N:Nat):ApiValue→Prop
  |word (k:Int) (hk:k=1∨k=2∨k=3):Shp N ⟨k,[],[],[]⟩
  |num (s:List UInt8) (h:KY N s=true):Shp N ⟨4,s,[],[]⟩
  |str (s:List UInt8) (h:(C9 N s).isSome=true):Shp N ⟨5,s,[],[]⟩
  |arr (xs:List ApiValue) (h: ∀x,x∈xs→FL N x=true):Shp N ⟨6,[],[],xs⟩
  |obj (ks:List (List UInt8)) (xs:List ApiValue) (hl:ks.length=xs.length) (hd:Jn N ks=true) (h: ∀x,x∈xs→FL N x=true):Shp N ⟨7,[],ks,xs⟩
theorem H5{N:Nat}{v:ApiValue} (h:FL N v=true):Shp N v:=by
  obtain⟨kind,text,keys,items⟩:=v
  rw[FL]at h
  by_cases h1:(kind==1||kind==2||kind==3)=true
  · rw[if_pos h1]at h
    simp only[Bool.and_eq_true,beq_iff_eq,List.isEmpty_iff]at h
    obtain⟨⟨rfl,rfl⟩,rfl⟩:=h
    simp only[Bool.or_eq_true,beq_iff_eq]at h1
    exact .word _ (by omega)
  rw[if_neg h1]at h
  by_cases h4:(kind==4)=true
  · rw[if_pos h4]at h
    simp only[Bool.and_eq_true,List.isEmpty_iff]at h
    obtain⟨⟨hn,rfl⟩,rfl⟩:=h
    rw[beq_iff_eq]at h4;subst h4
    exact .num _ hn
  rw[if_neg h4]at h
  by_cases h5:(kind==5)=true
  · rw[if_pos h5]at h
    simp only[Bool.and_eq_true,List.isEmpty_iff]at h
    obtain⟨⟨hn,rfl⟩,rfl⟩:=h
    rw[beq_iff_eq]at h5;subst h5
    exact .str _ hn
  rw[if_neg h5]at h
  by_cases h6:(kind==6)=true
  · rw[if_pos h6]at h
    simp only[Bool.and_eq_true,beq_iff_eq,List.isEmpty_iff]at h
    obtain⟨⟨rfl,rfl⟩,hs⟩:=h
    rw[beq_iff_eq]at h6;subst h6
    exact .arr _ (MZ hs)
  rw[if_neg h6]at h
  by_cases h7:(kind==7)=true
  · rw[if_pos h7]at h
    simp only[Bool.and_eq_true,beq_iff_eq,decide_eq_true_eq]at h
    obtain⟨⟨⟨rfl,hl⟩,hd⟩,hs⟩:=h
    rw[beq_iff_eq]at h7;subst h7
    exact .obj _ _ hl hd (MZ hs)
  rw[if_neg h7]at h;cases h
theorem Shp.b{N:Nat}{v:ApiValue} (h:Shp N v):FL N v=true:=by
  cases h with
  |word k hk=>rcases hk with rfl|rfl|rfl<;>rfl
  |num s h=>simp[FL,h]
  |str s h=>simp[FL,h]
  |arr xs h=>simp[FL,RD h]
  |obj ks xs hl hd h=>simp[FL,RD h,hl,hd]
theorem Lp (f:ApiValue→ApiValue): ∀(ks:List (List UInt8)) (xs:List ApiValue) (k:List UInt8),ks.length=xs.length→k∈ks→ ∃x,x∈xs∧Gn ks xs k=(x,true)∧Gn ks (xs.map f) k=(f x,true)
  |[],[],k,_,h=>by cases h
  | a::ks,x::xs,k,hl,h=>by
    by_cases e:a=k
    · exact⟨x,by simp,by simp[Gn,e],by simp[Gn,e]⟩
    · rcases List.mem_cons.1 h with h|h
      · exact absurd h.symm e
      · obtain⟨y,h1,h2,h3⟩:=Lp f ks xs k (by simpa using hl) h
        exact⟨y,by simp[h1],by simp[Gn,e,h2],by simp[Gn,e,h3]⟩
section
variable{N:Nat}
theorem ADr:Il []=[]:=by simp[Il]
theorem Ou{n:Nat} (h:n≤1000000000):FY n 72:=by unfold FY;omega
theorem ADI{s:List UInt8} (hs:s.length≤1048576) (h:(C9 N s).isSome=true):V4 N s=(DT s,0):=by
  unfold V4;rw[if_neg (by omega),if_pos h]
theorem NH (s:List UInt8):(DT s).length≤6 * s.length+2:=by
  unfold DT
  have:=q_len s
  simp only[List.length_cons,List.length_append,List.length_nil];omega
theorem AFM{n:Nat} (h:n≤1000000000):FY n 1:=by unfold FY;omega
end
end Go.VM
