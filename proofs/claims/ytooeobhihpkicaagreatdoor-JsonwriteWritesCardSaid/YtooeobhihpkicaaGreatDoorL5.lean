import Derived.Test.YtooeobhihpkicaaGreatDoorL4
set_option linter.unusedVariables false
set_option linter.unusedSimpArgs false
namespace Go.VM
section
variable{N:Nat}
theorem ABJ (k29:List UInt8→Option (List UInt8×Int)): ∀(l:List UInt8) (k:Nat),l.length<k→EE N k29 k l=k29 (l.dropWhile (· ==48))
  |[],k+1,_=>by rw[EE,Ab];rfl
  | x::l,k+1,h=>by
    simp only[List.length_cons]at h
    rw[EE,Ab,if_pos (by simp<;>omega),show idx (x::l) 0=some x from rfl,Option.bind_some,List.dropWhile_cons]
    try dsimp only
    rw[show(Ae x==48)=(x==48)from NW x 48]
    cases x==48
    · rfl
    · rw[if_pos rfl,Js,Option.bind_some,ABJ k29 l k (by omega)];rfl
theorem ABj (k40:Int×List UInt8→Option (List UInt8×Int)): ∀(n:Nat) (l:List UInt8) (x:Int),l.length=n→n≤2^50→(∃c r,l=c::r∧(c==48)=false)→ -(2^60)≤x→x+n≤2^60→ ∀k:Nat,n<k→Eg N k40 k x l=k40 (x+l.length-(Iw (· ==48) l).length,Iw (· ==48) l)
  |0,l,x,hl,hb,⟨c,r,e,hc⟩,h1,h3,k,hk=>by rw[e]at hl;simp at hl
  |n+1,l,x,hl,hb,hh,h1,h3,0,hk=>by omega
  | n+1,l,x,hl,hb,hh,h1,h3,k+1,hk=>by
    obtain⟨l',y,rfl⟩: ∃l' y,l=l'++[y]:=by
      have hne:l≠ []:=fun e=>by subst e;simp at hl
      exact⟨l.dropLast,l.getLast hne,(List.dropLast_concat_getLast hne).symm⟩
    have hl':l'.length=n:=by simpa using hl
    rw[Eg,Y4 l' y (by omega),Option.bind_some,NA,show(Ae y==48)=(y==48)from NW y 48]
    by_cases hy:(y==48)=true
    · rw [if_pos hy,if_pos hy,Wu l' y (by omega),Option.bind_some,A8 (by omega)]
      have hh': ∃c r,l'=c::r∧(c==48)=false:=by
        obtain⟨c,r,e,hc⟩:=hh
        cases l' with
        | nil=>
          simp only[List.nil_append,List.cons.injEq]at e
          rw[e.1,hc]at hy;cases hy
        | cons a l'=>
          simp only[List.cons_append,List.cons.injEq]at e
          exact⟨a,l',rfl,by rw[e.1];exact hc⟩
      rw[ABj k40 n l' (x+1) hl' (by omega) hh' (by omega) (by omega) k (by omega)]
      congr 2
      simp only[List.length_append,List.length_cons,List.length_nil];omega
    · rw[if_neg hy,if_neg hy]
      congr 2;omega
theorem PY (set:List UInt8) (hs:set.length≤1000) (k2:Unit→Option Int) (n:Int) (h:k2 ()=some n): ∀(l:List UInt8) (i:Nat),((i+l.length:Nat):Int)=n→Df N set k2 l (i:Int)=some ((i+(l.takeWhile fun c=>!set.contains c).length:Nat):Int)
  |[],i,hn=>by rw[Df,h,←hn];simp
  | c::l,i,hn=>by
    rw[Df,UN _ _ hs,Option.bind_some,List.takeWhile_cons]
    cases hc:set.contains c
    · simp only[List.length_cons]at hn
      rw[if_neg (by decide),show(i:Int)+1=((i+1:Nat):Int) by simp,PY set hs k2 n h l (i+1) (by rw[←hn];congr 1;omega)]
      simp only[Bool.not_false,if_true,List.length_cons];congr 2;omega
    · simp
theorem Sv (l set:List UInt8) (hs:set.length≤1000) (hb:l.length≤2^60):IP N l set=some (((l.takeWhile fun c=>!set.contains c).length:Nat):Int):=by
  unfold IP
  rw[Ab,AU (by unfold BD;omega),show(0:Int)=((0:Nat):Int)from rfl,PY set hs _ _ rfl l 0 (by simp)]
  simp
theorem OZ{p:UInt8→Bool}: ∀ {a b:List UInt8},(∀c∈a,p c=true)→(b=[]∨ ∃c r,b=c::r∧p c=false)→(a++b).takeWhile p=a
  | [],b,_,hb=>by
    rcases hb with rfl|⟨c,r,rfl,hc⟩
    · rfl
    · rw[List.nil_append,List.takeWhile_cons,hc];rfl
  | x::a,b,ha,hb=>by
    rw[List.cons_append,List.takeWhile_cons,ha x (by simp),if_pos rfl,OZ (fun c hc=>ha c (by simp[hc])) hb]
section
variable{s sg W F FR P EX:List UInt8}
theorem Ui{l:List UInt8} (h:l.all Ep=true): ∀c∈l,Ep c=true:=by simpa using h
theorem ABa{c:UInt8} (h:Ep c=true):([101,69]:List UInt8).contains c=false:=by
  have:=Jn (f:=fun n=>if(decide (48≤n)&&decide (n≤57))=true then([101,69]:List UInt8).contains (UInt8.ofNat n)else false) (g:=fun _=>false) (by kernel_rfl) c
  simp only[UInt8.ofNat_toNat,show(decide (48≤c.toNat)&&decide (c.toNat≤57))=true from h,if_true]at this
  exact this
theorem AIZ{c:UInt8} (h:Ep c=true):([46]:List UInt8).contains c=false:=by
  rw[NI]
  have:=LH h
  have: ¬c.toNat=(46:UInt8).toNat:=by show¬c.toNat=46;omega
  simpa using this
theorem AIs (h:NumP s sg W F FR P EX) (hn:GI s=s.length) (hb:s.length≤2^48) (hN:s.length+30<N):ET N s=some (Jv sg (W++F) (Jz (2^30) P-F.length)):=by
  obtain⟨l1,l2,l3⟩:=h.len
  have hne:s≠ []:=by
    rw[h.eq]
    intro e
    have:=List.append_eq_nil_iff.1 e
    have:=List.append_eq_nil_iff.1 this.2
    exact h.Wn this.1
  unfold ET
  refine(CY (a:=false) fun k2=>?_).trans ?_
  · rw[if_neg (by simpa using hne),PW s (by omega) (by omega),Option.bind_some,hn];simp
  try dsimp only
  rw[if_neg (by decide)]
  have hhead: ∀k8:List UInt8×List UInt8→Option (List UInt8×Int),(Option.bind (idx s 0) fun x11=>if(Ae x11==45)=true then Option.bind (sub s 1 (s.length:Int)) fun x12=>k8 (x12,[45])else k8 (s,[]))=k8 (W++(FR++EX),sg):=by
    intro k7
    rcases h.sg with e|e
    · have hs:s=W++(FR++EX):=by rw[h.eq,e];rfl
      cases hW:W with
      |nil=>exact absurd hW h.Wn
      | cons c W'=>
        have hc:Ep c=true:=by
          have:=h.Wd
          rw[hW,List.all_cons,Bool.and_eq_true]at this
          exact this.1
        have hs2:s=c::(W'++(FR++EX)):=by rw[hs,hW];rfl
        rw[hs2,show idx (c::(W'++(FR++EX))) 0=some c from rfl,Option.bind_some,AHh,NI]
        have:=LH hc
        have: ¬c.toNat=(45:UInt8).toNat:=by show¬c.toNat=45;omega
        rw[if_neg (by simpa using this),e];rfl
    · have hs2:s=45::(W++(FR++EX)):=by rw[h.eq,e];rfl
      rw[hs2,show idx (45::(W++(FR++EX))) 0=some 45 from rfl,Option.bind_some,if_pos (by rfl),Js,Option.bind_some,e]
  refine(CY (a:=(W++(FR++EX),sg)) fun k8=>hhead k8).trans ?_
  try dsimp only
  have hWF:(W++(FR++EX)).takeWhile (fun c=>!([101,69]:List UInt8).contains c)=W++FR:=by
    rw[←List.append_assoc]
    refine OZ (fun c hc=>?_) ?_
    · rcases List.mem_append.1 hc with hc|hc
      · rw[ABa (Ui h.Wd c hc)];rfl
      · rcases h.fr with⟨e1,e2⟩|e
        · rw[e1]at hc;cases hc
        · rw[e]at hc
          rcases List.mem_cons.1 hc with rfl|hc
          · rfl
          · rw[ABa (Ui h.Fd c hc)];rfl
    · rcases h.ex with⟨e1,e2⟩|e|e
      · exact .inl e1
      · exact .inr ⟨_,_,e,rfl⟩
      · exact .inr ⟨_,_,e,rfl⟩
  have hlen:(W++(FR++EX)).length=(W++FR).length+EX.length:=by simp only[List.length_append];omega
  rw[Sv _ _ (by decide) (by simp;omega),Option.bind_some,hWF,A8 (by simp;omega),show(((W++FR).length:Nat):Int)+1=(((W++FR).length+1:Nat):Int) by simp,Q5,Option.bind_some]
  have hP:(W++(FR++EX)).drop ((W++FR).length+1)=P:=by
    rw[←List.append_assoc,List.drop_append,List.drop_of_length_le (by omega),List.nil_append,Nat.add_sub_cancel_left]
    rcases h.ex with⟨e1,e2⟩|e|e
    · rw[e1,e2];rfl
    · rw[e];rfl
    · rw[e];rfl
  rw[hP,AIN h.pw (by omega),Option.bind_some]
  have hsub:sub (W++(FR++EX)) 0 (((W++FR).length:Nat):Int)=some (W++FR):=by
    rw[show(0:Int)=((0:Nat):Int)from rfl,Fh _ 0 _ (by omega) (by omega),←List.append_assoc]
    simp only[List.drop_zero,Nat.sub_zero,List.take_left]
  rw[hsub,Option.bind_some]
  have hev: -(2^30:Int)≤Jz (2^30) P∧Jz (2^30) P≤(2^30:Int):=by
    unfold Jz
    have:min (IM 0 (P.dropWhile ([43,45]:List UInt8).contains)) (2^30)≤2^30:=Nat.min_le_right _ _
    split<;>omega
  generalize Jz (2^30) P=x at *
  have hdot:(W++FR).takeWhile (fun c=>!([46]:List UInt8).contains c)=W:=by
    refine OZ (fun c hc=>?_) ?_
    · rw[AIZ (Ui h.Wd c hc)];rfl
    · rcases h.fr with⟨e1,e2⟩|e
      · exact .inl e1
      · exact .inr ⟨_,_,e,rfl⟩
  refine(CY (a:=(x-(F.length:Int),W++F)) fun k21=>?_).trans ?_
  · rw [Sv _ _ (by decide) (by simp;omega),Option.bind_some,hdot]
    rcases h.fr with⟨e1,e2⟩|e
    · rw[e1,e2,List.append_nil,if_neg (by simp)];simp
    · have hfl:FR.length=F.length+1:=by rw[e];simp
      have w1:wr .i64 ((W.length:Int)+1)=((W.length+1:Nat):Int):=by rw[A8 (by omega)];simp
      have s1:sub (W++FR) 0 (W.length:Int)=some W:=by
        rw[show(0:Int)=((0:Nat):Int)from rfl,Fh _ 0 _ (by omega) (by simp)];simp only[List.drop_zero,Nat.sub_zero,List.take_left]
      have s2:sub (W++FR) ((W.length+1:Nat):Int) (((W++FR).length:Nat):Int)=some F:=by
        rw[Fh _ _ _ (by simp;omega) (Nat.le_refl _),List.take_of_length_le (by simp<;>omega),List.drop_append,List.drop_of_length_le (by omega),List.nil_append,Nat.add_sub_cancel_left,e];rfl
      rw[if_pos (by simp;omega),s1,Option.bind_some,w1,s2,Option.bind_some,AU (by unfold BD;omega)]
      have w2:wr .i64 (x-wr .i64 (wr .i64 ((((W++FR).length:Nat):Int)-(W.length:Int))-1))=x-(F.length:Int):=by
        rw[List.length_append,A8 (n:=((W.length+FR.length:Nat):Int)-(W.length:Int)) (by omega),A8 (n:=((W.length+FR.length:Nat):Int)-(W.length:Int)-1) (by omega),A8 (by omega)]
        omega
      rw[w2]
  try dsimp only
  have hml:=(List.dropWhile_sublist (fun x:UInt8=>x==48) (l:=W++F)).length_le
  rw[List.length_append]at hml
  refine(CY (a:=(W++F).dropWhile (· ==48)) fun k29=>ABJ k29 (W++F) N (by simp;omega)).trans ?_
  try dsimp only
  have hhd:(W++F).dropWhile (fun x:UInt8=>x==48)=[]∨ ∃c r,(W++F).dropWhile (fun x:UInt8=>x==48)=c::r∧(c==48)=false:=by
    generalize W++F=l
    induction l with
    |nil=>exact .inl rfl
    | cons c l ih=>
      rw[List.dropWhile_cons]
      cases hc:(c==48)
      · exact .inr ⟨c,l,rfl,hc⟩
      · exact ih
  have htl:=Qm (fun x:UInt8=>x==48) ((W++F).dropWhile (fun x:UInt8=>x==48))
  unfold Jv
  dsimp only
  generalize hm1:(W++F).dropWhile (fun x:UInt8=>x==48)=m1 at *
  by_cases hz:m1=[]
  · subst hz;rfl
  have hhd': ∃c r,m1=c::r∧(c==48)=false:=by
    rcases hhd with e|e
    · exact absurd e hz
    · exact e
  have hsz:Iw (fun x:UInt8=>x==48) m1≠ []:=by
    obtain⟨c,r,rfl,hc⟩:=hhd'
    have key: ∀(n:Nat) (r:List UInt8),r.length=n→Iw (fun x:UInt8=>x==48) (c::r)≠ []:=by
      intro n
      induction n with
      | zero=>
        intro r hr
        have:r=[]:=List.length_eq_zero_iff.1 hr
        subst this
        unfold Iw;simp[hc]
      | succ n ih=>
        intro r hr
        obtain⟨r',y,rfl⟩: ∃l' y,r=l'++[y]:=by
          have hne:r≠ []:=fun e=>by subst e;simp at hr
          exact⟨r.dropLast,r.getLast hne,(List.dropLast_concat_getLast hne).symm⟩
        rw[←List.cons_append,NA]
        split
        · exact ih r' (by simpa using hr)
        · simp
    exact key _ r rfl
  rw[if_neg (by simpa using hz),if_neg hsz]
  refine(CY (a:=(x-(F.length:Int)+(m1.length:Int)-((Iw (fun x:UInt8=>x==48) m1).length:Int),Iw (fun x:UInt8=>x==48) m1)) fun k40=>ABj k40 m1.length m1 _ rfl (by omega) hhd' (by omega) (by omega) N (by omega)).trans ?_
  try dsimp only
  generalize hsh:Iw (fun x:UInt8=>x==48) m1=sh at *
  generalize hy:x-(F.length:Int)+(m1.length:Int)-(sh.length:Int)=y at *
  have hsg:sg.length≤1:=by rcases h.sg with e|e<;>rw[e]<;>simp
  refine(CY (a:=decide (sh.length>40∨y< -400∨y>400)) fun k26=>?_).trans ?_
  · by_cases c1:(sh.length:Int)>40
    · rw[if_pos (decide_eq_true c1),decide_eq_true (.inl (by omega))]
    · rw[if_neg (by simpa using c1)]
      by_cases c2:y>400
      · rw[if_pos (decide_eq_true c2),decide_eq_true (.inr (.inr c2))]
      · rw[if_neg (by simpa using c2)]
        congr 1
        simp only[eq_iff_iff,decide_eq_decide];omega
  try dsimp only
  by_cases hc:sh.length>40∨y< -400∨y>400
  · rw[if_pos (decide_eq_true hc),if_pos hc]
  rw[if_neg (by simpa using hc),if_neg hc]
  have hc': ¬(sh.length>40)∧ ¬y< -400∧ ¬y>400:=⟨fun h=>hc (.inl h),fun h=>hc (.inr (.inl h)),fun h=>hc (.inr (.inr h))⟩
  have hf:=YW
  unfold AJf
  by_cases c1:y<0
  · rw[if_pos (decide_eq_true c1),if_pos c1,AU (by unfold BD;omega),AU (by unfold BD;simp;omega),A8 (by omega),Py (by omega) (by omega),QL _ (by omega) (by omega),Option.bind_some]
    have:=hf (0-y).toNat
    have:=hf (-y).toNat
    rw[AU (by unfold BD;simp;omega),show(0-y).toNat=(-y).toNat by omega]
    simp
  · rw[if_neg (by simpa using c1),if_neg c1]
    by_cases c2:y>0
    · have:=hf y.toNat
      rw[if_pos (decide_eq_true c2),if_pos c2,AU (by unfold BD;omega),AU (by unfold BD;simp;omega),Py (by omega) (by omega),QL _ (by omega) (by omega),Option.bind_some,AU (by unfold BD;simp;omega)]
      simp
    · rw[if_neg (by simpa using c2),if_neg c2,AU (by unfold BD;omega)]
      simp
end
theorem AFY (s:List UInt8) (hn:s=[]∨GI s≠s.length) (hb:s.length≤2^48):ES N s=some ([],130):=by
  unfold ES
  have hp:=RI (N:=N) (l:=s) (t:=s) (i:=0) (by simp) (by omega) (by omega)
  by_cases hz:GI s=0
  · rw[if_pos hz]at hp
    obtain⟨q,hq⟩:=hp
    have hq':Ci N (TokenReader.mk s 0)=some ([],false,q):=hq
    rw[hq',Option.bind_some];rfl
  · rw[if_neg hz]at hp
    have hp':Ci N (TokenReader.mk s 0)=some (s.take (GI s),true,(⟨s,((0+GI s:Nat):Int)⟩:TokenReader)):=hp
    rw[hp',Option.bind_some]
    refine(CY (a:=true) fun k4=>?_).trans rfl
    have hle:=ABQ s
    have hne:GI s≠s.length:=by
      rcases hn with rfl|h
      · exact absurd rfl hz
      · exact h
    rw[if_pos rfl,List.length_take,Nat.min_eq_left hle]
    congr 1
    simp only[bne_iff_ne,ne_eq];omega
theorem AFV (s:List UInt8) (hn:s=[]∨GI s≠s.length) (hb:s.length≤2^48) (hN:s.length+30<N):ET N s=some ([],130):=by
  unfold ET
  refine(CY (a:=true) fun k2=>?_).trans rfl
  by_cases h:s=[]
  · subst h;rfl
  · have hne:GI s≠s.length:=by
      rcases hn with e|e
      · exact absurd e h
      · exact e
    rw[if_neg (by simpa using h),PW s (by omega) (by omega),Option.bind_some]
    congr 1
    simp only[bne_iff_ne,ne_eq];omega
end
end Go.VM
namespace Go.VM
theorem QS{p:UInt8→Bool} (l:List UInt8):(l.dropWhile p).length≤l.length:=(List.dropWhile_sublist p (l:=l)).length_le
theorem Xh{sg m:List UInt8}{x y:Int} (hm:m.length≤2000000) (h:x=y∨(100000000≤x∧100000000≤y)∨(x≤ -100000000∧y≤ -100000000)):Jv sg m x=Jv sg m y:=by
  unfold Jv
  dsimp only
  have h1:=QS (p:=fun x:UInt8=>x==48) m
  have h2:=Qm (fun x:UInt8=>x==48) (m.dropWhile (fun x:UInt8=>x==48))
  generalize m.dropWhile (fun x:UInt8=>x==48)=m1 at *
  generalize Iw (fun x:UInt8=>x==48) m1=sh at *
  by_cases hz:sh=[]
  · rw[if_pos hz,if_pos hz]
  · rw[if_neg hz,if_neg hz]
    rcases h with rfl|⟨ha,hb⟩|⟨ha,hb⟩
    · rfl
    · rw[if_pos (.inr (.inr (by omega))),if_pos (.inr (.inr (by omega)))]
    · rw[if_pos (.inr (.inl (by omega))),if_pos (.inr (.inl (by omega)))]
theorem ADO (P:List UInt8) (f:Nat) (hf:f≤2000000):Jz (2^40) P-f=Jz (2^30) P-f∨(100000000≤Jz (2^40) P-f∧100000000≤Jz (2^30) P-f)∨(Jz (2^40) P-f≤ -100000000∧Jz (2^30) P-f≤ -100000000):=by
  unfold Jz
  generalize IM 0 (P.dropWhile ([43,45]:List UInt8).contains)=v
  by_cases h:v≤2^30
  · rw[Nat.min_eq_left (show v≤2^40 by omega),Nat.min_eq_left h];exact .inl rfl
  · rw[Nat.min_eq_right (show 2^30≤v by omega)]
    have h2:2^30≤min v (2^40):=Nat.le_min.2 ⟨by omega,by decide⟩
    split
    · exact .inr (.inr ⟨by omega,by omega⟩)
    · exact .inr (.inl ⟨by omega,by omega⟩)
theorem Zz (sg m:List UInt8) (x:Int):(Jv sg m x).2=0∨Jv sg m x=([],144):=by
  unfold Jv
  dsimp only
  split
  · exact .inl rfl
  · split
    · exact .inr rfl
    · exact .inl rfl
def AAq (N:Nat) (s:List UInt8):List UInt8×Int:=(ES N s).getD ([],144)
theorem AFa{N:Nat}{s:List UInt8} (h0:s≠ []) (hn:GI s=s.length) (hb:s.length≤2000000) (hN:s.length+30<N):
    ES N s=some (AAq N s)∧ET N s=some (AAq N s)∧((AAq N s).2=0∨AAq N s=([],144)):=by
  obtain⟨sg,W,F,FR,P,EX,h⟩:=ADd h0 hn
  obtain⟨l1,l2,l3⟩:=h.len
  have e1:=AHB (N:=N) h hn (by omega) hN
  have e2:=AIs (N:=N) h hn (by omega) hN
  have e3:AAq N s=Jv sg (W++F) (Jz (2^40) P-F.length):=by unfold AAq;rw[e1];rfl
  refine⟨by rw[e3];exact e1,?_,by rw[e3];exact Zz _ _ _⟩
  rw[e2,e3,Xh (by rw[List.length_append];omega) (ADO P F.length (by omega))]
end Go.VM
namespace Go.VM
mutual
def IA:ApiValue→Nat
  |⟨kind,_,_,items⟩=>(if kind==6||kind==7 then 1 else 0)+Er items
def Er:List ApiValue→Nat
  |[]=>0
  |x::xs=>max (IA x) (Er xs)
end
theorem Kl (v:ApiValue):IA v=(if v.kind==6||v.kind==7 then 1 else 0)+Er v.items:=by cases v;rw[IA]
theorem Ra (v:ApiValue):0<Gs v:=by rw[Ih];omega
section
variable{N:Nat}
theorem RY (inner:Nat) (rc:ApiValue→Int→Option Int): ∀(xs:List ApiValue) (n:Nat),n+Dx xs≤20000→(∀x,x∈xs→rc x (inner:Int)=some (if inner+IA x≤64 then(Gs x:Int)else 0))→
    inner≤64→DD N rc (inner:Int) (fun j=>some j) xs (n:Int)=some (if inner+Er xs≤64 then((n+Dx xs:Nat):Int)else 0)
  |[],n,_,_,hi=>by rw[DD,Er,Dx,if_pos (by omega)];rfl
  | x::xs,n,hn,hr,hi=>by
    rw[Dx]at hn
    have hp:=Ra x
    rw[DD,hr x (by simp),Option.bind_some,Er,Dx]
    by_cases h:inner+IA x≤64
    · have e0:((Gs x:Int)==0)=false:=by simp;omega
      rw[if_pos h,e0,if_neg (by decide),A8 (by omega),if_neg (by simp;omega),show(n:Int)+(Gs x:Int)=((n+Gs x:Nat):Int) by simp]
      rw[RY inner rc xs (n+Gs x) (by omega) (fun y hy=>hr y (by simp[hy])) hi]
      by_cases h2:inner+Er xs≤64
      · rw[if_pos h2,if_pos (by omega)];congr 2;omega
      · rw[if_neg h2,if_neg (by omega)]
    · rw[if_neg h,if_pos (by decide),if_neg (by omega)]
theorem P5{x:ApiValue}: ∀ {xs:List ApiValue},x∈xs→Gs x≤Dx xs
  | y::xs,h=>by
    rw[Dx]
    rcases List.mem_cons.1 h with rfl|h
    · omega
    · have:=P5 h;omega
theorem Zf: ∀(D e d:Nat) (v:ApiValue),okW e v→e≤D→d≤64→Gs v≤20000→Dp N D v (d:Int)=some (if d+IA v≤64 then(Gs v:Int)else 0)
  |0,e,d,v,h,he,_,_=>by have:=h.pos;omega
  | D+1,e,d,v,h,he,hd,hc=>by
    obtain⟨e,rfl⟩: ∃k,e=k+1:=⟨e-1,by have:=h.pos;omega⟩
    have hi:=h.items
    rw[Ih]at hc
    have main: ∀inner:Nat,inner≤65→(if decide ((inner:Int)>64)=true then some (0:Int)else AY (fun j9:Int=>some j9) fun k10=>grd (BD v.items.length) (DD N (Dp N D) (inner:Int) k10 v.items 1))=some (if inner+Er v.items≤64 then(Gs v:Int)else 0):=by
      intro inner hin
      by_cases h64:inner>64
      · rw[if_pos (by simp;omega),if_neg (by omega)]
      · rw[if_neg (by simp;omega),Ab,JA (by omega),show(1:Int)=((1:Nat):Int)from rfl]
        rw[RY inner (Dp N D) v.items 1 (by omega) (fun x hx=>Zf D e inner x (h.sub x hx) (by omega) (by omega) (by have:=P5 hx;omega)) (by omega),Ih]
    rw[Dp,Kl]
    simp only[Ab]
    cases h6:v.kind==6
    · cases h7:v.kind==7
      · simp only[Bool.false_eq_true,if_false,Bool.or_false,Nat.zero_add]
        exact main d (by omega)
      · simp only[Bool.false_eq_true,if_false,if_true,Bool.or_true]
        rw[A8 (by omega),show(d:Int)+1=((d+1:Nat):Int) by simp]
        have:=main (d+1) (by omega)
        simpa[Nat.add_assoc,Ab]using this
    · simp only[if_true,Bool.true_or]
      rw[A8 (by omega),show(d:Int)+1=((d+1:Nat):Int) by simp]
      have:=main (d+1) (by omega)
      simpa[Nat.add_assoc,Ab]using this
def XL (N:Nat) (s:List UInt8):List UInt8×Int:=if s≠ []∧GI s=s.length then AAq N s else([],130)
theorem ABS (s:List UInt8) (hb:s.length≤2000000) (hN:s.length+30<N):ET N s=some (XL N s)∧ES N s=some (XL N s):=by
  unfold XL
  by_cases h:s≠ []∧GI s=s.length
  · rw[if_pos h]
    obtain⟨h1,h2,_⟩:=AFa h.1 h.2 hb hN
    exact⟨h2,h1⟩
  · rw[if_neg h]
    have hb':s=[]∨GI s≠s.length:=by
      by_cases h1:s=[]
      · exact .inl h1
      · exact .inr fun h2=>h ⟨h1,h2⟩
    exact⟨AFV s hb' (by omega) hN,AFY s hb' (by omega)⟩
def Sl (N:Nat) (s:List UInt8):Bool:=(XL N s).2==0&&(XL N s).1==s
mutual
def Ex (N:Nat):ApiValue→Bool
  | ⟨kind,text,keys,items⟩=>
    if kind==1||kind==2||kind==3 then text==[]&&keys.isEmpty&&items.isEmpty
    else if kind==4 then Sl N text&&keys.isEmpty&&items.isEmpty
    else if kind==5 then(DF N text).isSome&&keys.isEmpty&&items.isEmpty
    else if kind==6 then text==[]&&keys.isEmpty&&Ia N items
    else if kind==7 then text==[]&&decide (keys.length=items.length)&&JQ N keys&&Ia N items
    else false
def Ia (N:Nat):List ApiValue→Bool
  |[]=>true
  |x::xs=>Ex N x&&Ia N xs
end
theorem Rl (rc:ApiValue→Option Bool) (k24:Unit→Option Bool) (hk:k24 ()=some true): ∀(xs:List ApiValue),(∀x,x∈xs→rc x=some (Ex N x))→C9 N rc k24 xs=some (Ia N xs)
  |[],_=>by rw[C9,Ia,hk]
  | x::xs,h=>by
    rw[C9,h x (by simp),Option.bind_some,Ia,Rl rc k24 hk xs fun y hy=>h y (by simp[hy])]
    cases Ex N x<;>simp
theorem Te{α:Type} (l:List α):(((l.length:Nat):Int)==0)=l.isEmpty:=by cases l<;>simp;omega
theorem Yj (hN:2000≤N): ∀(D e:Nat) (v:ApiValue),okW e v→e≤D→EF N D v=some (Ex N v)
  |0,e,v,h,he=>by have:=h.pos;omega
  | D+1,e,v,h,he=>by
    obtain⟨e,rfl⟩: ∃k,e=k+1:=⟨e-1,by have:=h.pos;omega⟩
    have hi:=h.items;have ht:=h.text;have hk:=h.keys;have hkl:=h.klen
    have hs:=h.sub
    have loop: ∀k24:Unit→Option Bool,k24 ()=some true→C9 N (EF N D) k24 v.items=some (Ia N v.items):=fun k24 h24=>Rl _ k24 h24 v.items fun x hx=>Yj hN D e x (hs x hx) (by omega)
    have hdiff:=Uz (N:=N) v.keys (by omega) (by omega) fun k hk=>⟨by have:=hkl k hk;omega,by have:=hkl k hk;omega⟩
    have hnum:=(ABS (N:=N) v.text (by omega) (by omega)).1
    have hval:=OO (N:=N) (l:=v.text) (by omega) (by omega)
    rw[EF]
    obtain⟨kind,text,keys,items⟩:=v
    simp only at *
    rw[Ex]
    simp only[Ab,Te,hdiff,hnum,hval,Option.bind_some]
    rw[JA (by omega),loop _ rfl]
    have elen:(((keys.length:Nat):Int) !=((items.length:Nat):Int))=!decide (keys.length=items.length):=by
      by_cases h:keys.length=items.length
      · simp[h]
      · have: ¬((keys.length:Int)=(items.length:Int)):=by omega
        simp[h,this,bne]
    have elen0:(((keys.length:Nat):Int) !=0)=!keys.isEmpty:=by rw[bne,Te]
    rw[elen,elen0]
    unfold Sl
    cases h1:kind==1<;>cases h2:kind==2<;>cases h3:kind==3<;>simp only[Bool.false_eq_true,if_false,if_true,Bool.or_false,Bool.or_true,Bool.true_or,Bool.false_or,Bool.or_self]
    all_goals first
      |(cases text==[]<;>cases keys.isEmpty<;>rfl)
      |skip
    cases h4:kind==4<;>cases h5:kind==5<;>cases h6:kind==6<;>cases h7:kind==7<;>simp only[Bool.false_eq_true,if_false,if_true]
    all_goals first
      |rfl
      |(cases (XL N text).2==0<;>cases (XL N text).1==text<;>cases keys.isEmpty<;>rfl)
      |(cases (DF N text).isSome<;>cases keys.isEmpty<;>rfl)
      |(cases text==[]<;>cases keys.isEmpty<;>rfl)
      |(cases text==[]<;>cases decide (keys.length=items.length)<;>cases JQ N keys<;>rfl)
theorem RV (hN:2000≤N){v:ApiValue} (h:okW 70 v) (hc:Gs v≤20000):Gx N v=some (decide (IA v≤64)&&Ex N v):=by
  unfold Gx
  have hp:=Ra v
  rw[show(0:Int)=((0:Nat):Int)from rfl,Zf N 70 0 v h (by omega) (by omega) hc,Option.bind_some,Nat.zero_add]
  by_cases hn:IA v≤64
  · rw[if_pos hn,if_pos (by simp;omega),if_pos (by simp;omega),Yj hN N 70 v h (by omega),Option.bind_some]
    simp[hn]
  · rw[if_neg hn,if_neg (by simp)];simp[hn]
end
end Go.VM
namespace Go.VM
mutual
def Cr:ApiValue→ApiValue
  |⟨kind,text,keys,items⟩=>if kind==6 then⟨kind,text,[],Nb items⟩else⟨kind,text,Hy keys,(Hy keys).map fun k=>(Ip keys (Nb items) k).1⟩
def Nb:List ApiValue→List ApiValue
  |[]=>[]
  |x::xs=>Cr x::Nb xs
end
theorem Jf: ∀xs:List ApiValue,Nb xs=xs.map Cr
  |[]=>rfl
  |x::xs=>by rw[Nb,Jf xs];rfl
mutual
def wrV:ApiValue→List UInt8
  | ⟨kind,text,keys,items⟩=>
    if kind==1 then [110,117,108,108]else if kind==2 then [102,97,108,115,101]else if kind==3 then [116,114,117,101]else if kind==4 then text
    else if kind==5 then IK text else if kind==7 then 123::(wrM true keys items++[125])else 91::(wrI true items++[93])
def wrI:Bool→List ApiValue→List UInt8
  |_,[]=>[]
  |b,x::xs=>(if b then []else [44])++(wrV x++wrI false xs)
def wrM:Bool→List (List UInt8)→List ApiValue→List UInt8
  |b,k::ks,x::xs=>(if b then []else [44])++(IK k++(58::(wrV x++wrM false ks xs)))
  |_,_,_=>[]
end
theorem Kj{N:Nat}: ∀ {xs:List ApiValue},Ia N xs=true→ ∀x,x∈xs→Ex N x=true
  |[],_,x,hx=>by cases hx
  | y::xs,h,x,hx=>by
    rw[Ia,Bool.and_eq_true]at h
    rcases List.mem_cons.1 hx with rfl|hx
    · exact h.1
    · exact Kj h.2 x hx
theorem QH{N:Nat}: ∀ {xs:List ApiValue},(∀x,x∈xs→Ex N x=true)→Ia N xs=true
  |[],_=>rfl
  |y::xs,h=>by rw[Ia,h y (by simp),QH fun x hx=>h x (by simp[hx])];rfl
inductive Shp (N:Nat):ApiValue→Prop
  |word (k:Int) (hk:k=1∨k=2∨k=3):Shp N ⟨k,[],[],[]⟩
  |num (s:List UInt8) (h:Sl N s=true):Shp N ⟨4,s,[],[]⟩
  |str (s:List UInt8) (h:(DF N s).isSome=true):Shp N ⟨5,s,[],[]⟩
  |arr (xs:List ApiValue) (h: ∀x,x∈xs→Ex N x=true):Shp N ⟨6,[],[],xs⟩
  |obj (ks:List (List UInt8)) (xs:List ApiValue) (hl:ks.length=xs.length) (hd:JQ N ks=true) (h: ∀x,x∈xs→Ex N x=true):Shp N ⟨7,[],ks,xs⟩
theorem OA{N:Nat}{v:ApiValue} (h:Ex N v=true):Shp N v:=by
  obtain⟨kind,text,keys,items⟩:=v
  rw[Ex]at h
  by_cases h1:(kind==1||kind==2||kind==3)=true
  · rw[if_pos h1]at h
    simp only[Bool.and_eq_true,beq_iff_eq,List.isEmpty_iff]at h
    obtain⟨⟨rfl,rfl⟩,rfl⟩:=h
    simp only[Bool.or_eq_true,beq_iff_eq]at h1
    exact .word _ (by omega)
  rw[if_neg h1]at h
  by_cases h4:(kind==4)=true
  · rw[if_pos h4]at h
    simp only[Bool.and_eq_true,List.isEmpty_iff]at h
    obtain⟨⟨hn,rfl⟩,rfl⟩:=h
    rw[beq_iff_eq]at h4;subst h4
    exact .num _ hn
  rw[if_neg h4]at h
  by_cases h5:(kind==5)=true
  · rw[if_pos h5]at h
    simp only[Bool.and_eq_true,List.isEmpty_iff]at h
    obtain⟨⟨hn,rfl⟩,rfl⟩:=h
    rw[beq_iff_eq]at h5;subst h5
    exact .str _ hn
  rw[if_neg h5]at h
  by_cases h6:(kind==6)=true
  · rw[if_pos h6]at h
    simp only[Bool.and_eq_true,beq_iff_eq,List.isEmpty_iff]at h
    obtain⟨⟨rfl,rfl⟩,hs⟩:=h
    rw[beq_iff_eq]at h6;subst h6
    exact .arr _ (Kj hs)
  rw[if_neg h6]at h
  by_cases h7:(kind==7)=true
  · rw[if_pos h7]at h
    simp only[Bool.and_eq_true,beq_iff_eq,decide_eq_true_eq]at h
    obtain⟨⟨⟨rfl,hl⟩,hd⟩,hs⟩:=h
    rw[beq_iff_eq]at h7;subst h7
    exact .obj _ _ hl hd (Kj hs)
  rw[if_neg h7]at h;cases h
theorem Shp.b{N:Nat}{v:ApiValue} (h:Shp N v):Ex N v=true:=by
  cases h with
  |word k hk=>rcases hk with rfl|rfl|rfl<;>rfl
  |num s h=>simp[Ex,h]
  |str s h=>simp[Ex,h]
  |arr xs h=>simp[Ex,QH h]
  |obj ks xs hl hd h=>simp[Ex,QH h,hl,hd]
theorem XV (f:ApiValue→ApiValue): ∀(ks:List (List UInt8)) (xs:List ApiValue) (k:List UInt8),ks.length=xs.length→k∈ks→ ∃x,x∈xs∧Ip ks xs k=(x,true)∧Ip ks (xs.map f) k=(f x,true)
  |[],[],k,_,h=>by cases h
  | a::ks,x::xs,k,hl,h=>by
    by_cases e:a=k
    · exact⟨x,by simp,by simp[Ip,e],by simp[Ip,e]⟩
    · rcases List.mem_cons.1 h with h|h
      · exact absurd h.symm e
      · obtain⟨y,h1,h2,h3⟩:=XV f ks xs k (by simpa using hl) h
        exact⟨y,by simp[h1],by simp[Ip,e,h2],by simp[Ip,e,h3]⟩
section
variable{N:Nat}
theorem I8:Hy []=[]:=by simp[Hy]
theorem VZ{n:Nat} (h:n≤1000000000):Cc n 72:=by unfold Cc;omega
theorem Ox (rc:ApiValue→Option ApiValue) (k2:List ApiValue→Option ApiValue): ∀(xs out:List ApiValue),out.length+xs.length≤1000000→(∀x,x∈xs→rc x=some (Cr x))→Dh N rc k2 xs out=k2 (out++Nb xs)
  |[],out,_,_=>by rw[Dh,Nb,List.append_nil]
  | x::xs,out,hb,hr=>by
    simp only[List.length_cons]at hb
    rw[Dh]
    simp only[Ab]
    rw[hr x (by simp),Option.bind_some,AU (VZ (by omega)),Ox rc k2 xs _ (by simp;omega) fun y hy=>hr y (by simp[hy]),Nb]
    simp
theorem Pb (v:ApiValue) (hk7:v.kind=7) (hkl:v.keys.length≤1000000) (rc:ApiValue→Option ApiValue) (k13:List (List UInt8)×List ApiValue→Option ApiValue) (hl:v.keys.length=v.items.length): ∀(ks ok:List (List UInt8)) (out:List ApiValue),ok.length+ks.length≤1000000→ok.length=out.length→(∀k,k∈ks→k∈v.keys)→(∀x,x∈v.items→rc x=some (Cr x))→
    Cj N v rc k13 ks ok out=k13 (ok++ks,out++ks.map fun k=>(Ip v.keys (Nb v.items) k).1)
  |[],ok,out,_,_,_,_=>by rw[Cj];simp
  | k::ks,ok,out,hb,ho,hm,hr=>by
    simp only[List.length_cons]at hb
    obtain⟨x,h1,h2,h3⟩:=XV Cr v.keys v.items k hl (hm k (by simp))
    have hg:AHu v k=(x,true):=by unfold AHu;rw[if_pos (by simp[hk7]),h2]
    rw[Cj]
    simp only[Ab]
    rw[AID v k (by omega),Option.bind_some,hg,AU (Lx (by omega)),hr x h1,Option.bind_some,AU (VZ (by omega))]
    rw[Pb v hk7 hkl rc k13 hl ks _ _ (by simp;omega) (by simp[ho]) (fun y hy=>hm y (by simp[hy])) hr]
    simp[Jf,h3]
theorem Np (hN:2000≤N): ∀(D e:Nat) (v:ApiValue),okW e v→e≤D→Ex N v=true→Cv N D v=some (Cr v)
  |0,e,v,h,he,_=>by have:=h.pos;omega
  | D+1,e,v,h,he,hs=>by
    obtain⟨e,rfl⟩: ∃k,e=k+1:=⟨e-1,by have:=h.pos;omega⟩
    have hi:=h.items;have hk:=h.keys;have hsub:=h.sub
    rw[Cv]
    cases OA hs with
    | word k hkw=>
      have h6:(k==6)=false:=by rcases hkw with rfl|rfl|rfl<;>rfl
      simp only[h6,Bool.false_eq_true,if_false,Ab]
      rw[Ke [] (by simp) (by simp;omega),I8,Option.bind_some,JA (by simp),Cj,Cr,h6,I8];rfl
    | num s _=>
      simp only[Ab]
      rw[if_neg (by decide),Ke [] (by simp) (by simp;omega),I8,Option.bind_some,JA (by simp),Cj,Cr,I8];rfl
    | str s _=>
      simp only[Ab]
      rw[if_neg (by decide),Ke [] (by simp) (by simp;omega),I8,Option.bind_some,JA (by simp),Cj,Cr,I8];rfl
    | arr xs hx=>
      simp only[Ab]at hi hsub⊢
      rw[if_pos (show((6:Int)==6)=true from rfl),JA (by omega),Ox _ _ xs [] (by simp;omega) fun x hm=>Np hN D e x (hsub x hm) (by omega) (hx x hm)]
      rfl
    | obj ks xs hl hd hx=>
      simp only[Ab]at hi hk hsub⊢
      have hp:=JB ks
      rw[if_neg (by decide),Ke ks (by omega) (by omega),Option.bind_some,JA (by rw[hp.length_eq];omega)]
      rw[Pb ⟨7,[],ks,xs⟩ rfl (by simp only[];omega) _ _ hl (Hy ks) [] [] (by rw[hp.length_eq];simp;omega) rfl (fun k hk=>hp.mem_iff.1 hk) fun x hm=>Np hN D e x (hsub x hm) (by omega) (hx x hm)]
      rfl
theorem Oc{s:List UInt8} (hs:s.length≤1048576) (h:(DF N s).isSome=true):Oq N s=(IK s,0):=by
  unfold Oq;rw[if_neg (by omega),if_pos h]
theorem Jy (s:List UInt8):(IK s).length≤6 * s.length+2:=by
  unfold IK
  have:=q_len s
  simp only[List.length_cons,List.length_append,List.length_nil];omega
theorem MI{n:Nat} (h:n≤1000000000):Cc n 1:=by unfold Cc;omega
theorem O5 (a:ApiValue) (h7:(a.kind==7)=false) (rc:ApiValue→Option (List UInt8)) (k4:List Int→Option (List UInt8)): ∀(xs:List ApiValue) (b:Bool) (n:Nat) (out:List UInt8),(b=true↔n=0)→n≤1000000→n+xs.length≤1000000→out.length+(wrI b xs).length≤1000000000→(∀x,x∈xs→rc x=some (wrV x))→
    CS N a rc k4 xs (n:Int) (out.map Ae)=k4 ((out++wrI b xs).map Ae)
  |[],b,n,out,_,_,_,_,_=>by rw[CS,wrI,List.append_nil]
  | x::xs,b,n,out,hb,hn,hx,hl,hr=>by
    simp only[List.length_cons]at hx
    rw[wrI]at hl
    simp only[List.length_append]at hl
    rw[CS]
    simp only[Ab,h7,Bool.false_eq_true,if_false]
    have step: ∀o:List UInt8,o.length+(wrV x).length+(wrI false xs).length≤1000000000→(Option.bind (rc x) fun y19=>grd (Cc ((o.map Ae).length+y19.length) 1) (CS N a rc k4 xs ((n:Int)+1) (o.map Ae++List.map Ae y19)))=k4 ((o++(wrV x++wrI false xs)).map Ae):=by
      intro o ho
      rw[hr x (by simp),Option.bind_some,AU (MI (by rw[List.length_map];omega)),←List.map_append,show(n:Int)+1=((n+1:Nat):Int) by simp]
      rw[O5 a h7 rc k4 xs false (n+1) (o++wrV x) (by simp) (by omega) (by omega) (by simp;omega) fun y hy=>hr y (by simp[hy])]
      simp
    rw[wrI]
    cases b
    · have hn0:n≠0:=fun e=>by have:=hb.2 e;cases this
      simp only[Bool.false_eq_true,if_false,List.length_cons,List.length_nil]at hl
      rw[if_pos (by simp;omega),AU (MI (by rw[List.length_map];omega))]
      have e:(out.map Ae++[44]:List Int)=(out++[44]).map Ae:=by simp[Ae]
      rw[e,step (out++[44]) (by simp;omega)]
      simp
    · have hn0:n=0:=hb.1 rfl
      subst hn0
      simp only[if_true,List.length_nil]at hl
      rw[if_neg (by simp),step out (by omega)]
      simp
theorem O7 (a:ApiValue) (h7:(a.kind==7)=true) (rc:ApiValue→Option (List UInt8)) (k4:List Int→Option (List UInt8)) (hN:2000≤N): ∀(xs:List ApiValue) (pre ks:List (List UInt8)) (b:Bool) (out:List UInt8),a.keys=pre++ks→ks.length=xs.length→(b=true↔pre.length=0)→pre.length+xs.length≤1000000→out.length+(wrM b ks xs).length≤1000000000→(∀k,k∈ks→(DF N k).isSome=true∧k.length≤1000)→(∀x,x∈xs→rc x=some (wrV x))→
    CS N a rc k4 xs (pre.length:Int) (out.map Ae)=k4 ((out++wrM b ks xs).map Ae)
  | [],pre,ks,b,out,_,hl,_,_,_,_,_=>by
    have:ks=[]:=List.length_eq_zero_iff.1 (by simpa using hl)
    subst this
    rw[CS,wrM,List.append_nil]
    intros;simp_all
  |x::xs,pre,[],b,out,_,hl,_,_,_,_,_=>by simp at hl
  | x::xs,pre,k::ks,b,out,hk,hkl,hb,hx,hl,hq,hr=>by
    simp only[List.length_cons]at hx hkl
    obtain⟨hq1,hq2⟩:=hq k (by simp)
    have hql:=Jy k
    rw[wrM]at hl
    simp only[List.length_append,List.length_cons]at hl
    rw[CS]
    simp only[Ab,h7,if_true]
    have step: ∀o:List UInt8,o.length+(IK k).length+1+(wrV x).length+(wrM false ks xs).length≤1000000000→(Option.bind (idx a.keys (pre.length:Int)) fun x16=>Option.bind (G8 N x16) fun y17=>grd (Cc ((o.map Ae).length+y17.1.length) 1) (grd (Cc ((o.map Ae++List.map Ae y17.1).length+1) 1)
      (Option.bind (rc x) fun y19=>grd (Cc (((o.map Ae++List.map Ae y17.1)++[58]).length+y19.length) 1) (CS N a rc k4 xs ((pre.length:Int)+1) (((o.map Ae++List.map Ae y17.1)++[58])++List.map Ae y19)))))=k4 ((o++(IK k++(58::(wrV x++wrM false ks xs)))).map Ae):=by
      intro o ho
      rw[hk,UY,Option.bind_some,TC k (.inl (by omega)),Option.bind_some,Oc (by omega) hq1]
      dsimp only
      rw[AU (MI (by rw[List.length_map];omega)),AU (MI (by simp only[List.length_append,List.length_map];omega)),hr x (by simp),Option.bind_some,AU (MI (by simp only[List.length_append,List.length_map,List.length_cons,List.length_nil];omega))]
      have e:(((o.map Ae++List.map Ae (IK k))++[58])++List.map Ae (wrV x):List Int)=(o++IK k++[58]++wrV x).map Ae:=by simp[Ae]
      rw[e,Kk pre k,O7 a h7 rc k4 hN xs (pre++[k]) ks false _ (by rw[hk];simp) (by simpa using hkl) (by simp) (by simp;omega) (by simp;omega) (fun y hy=>hq y (by simp[hy])) (fun y hy=>hr y (by simp[hy]))]
      simp
    rw[wrM]
    cases b
    · have hn0:pre.length≠0:=fun e=>by have:=hb.2 e;cases this
      simp only[Bool.false_eq_true,if_false,List.length_cons,List.length_nil]at hl
      rw[if_pos (by simp only[decide_eq_true_eq];omega),AU (MI (by rw[List.length_map];omega))]
      have e:(out.map Ae++[44]:List Int)=(out++[44]).map Ae:=by simp[Ae]
      rw[e,step (out++[44]) (by simp;omega)]
      simp
    · have hn0:pre.length=0:=hb.1 rfl
      simp only[if_true,List.length_nil]at hl
      rw[if_neg (by simp only[decide_eq_true_eq];omega),step out (by omega)]
      simp
theorem OW: ∀(e:Nat) (v:ApiValue),okW e v→Ex N v=true→(wrV v).length+1850≤3700 * Gs v
  |0,v,h,_=>by have:=h.pos;omega
  | e+1,v,h,hs=>by
    have ht:=h.text;have hsub:=h.sub;have hkl:=h.klen
    rw[Ih]
    cases OA hs with
    |word k hkw=>rcases hkw with rfl|rfl|rfl<;>(simp only[wrV];decide+revert)<;>simp[wrV,Dx]
    |num s _=>simp only at ht;simp[wrV,Dx];omega
    | str s _=>
      simp only at ht
      have:=Jy s
      simp[wrV,Dx];omega
    | arr xs hx=>
      simp only at hsub
      have key: ∀(b:Bool) (ys:List ApiValue),(∀y,y∈ys→okW e y∧Ex N y=true)→(wrI b ys).length≤3700 * Dx ys:=by
        intro b ys
        induction ys generalizing b with
        |nil=>intro _;simp[wrI]
        | cons y ys ih=>
          intro hy
          have h1:=OW e y (hy y (by simp)).1 (hy y (by simp)).2
          have h2:=ih false fun z hz=>hy z (by simp[hz])
          rw[wrI,Dx]
          simp only[List.length_append]
          have:(if b=true then([]:List UInt8)else [44]).length≤1:=by cases b<;>simp
          omega
      have:=key true xs fun y hy=>⟨hsub y hy,hx y hy⟩
      simp[wrV];omega
    | obj ks xs hl hd hx=>
      simp only at hsub hkl
      have key: ∀(b:Bool) (ks:List (List UInt8)) (ys:List ApiValue),(∀k,k∈ks→k.length≤300)→(∀y,y∈ys→okW e y∧Ex N y=true)→(wrM b ks ys).length≤3700 * Dx ys:=by
        intro b ks ys
        induction ys generalizing b ks with
        |nil=>intro _ _;cases ks<;>simp[wrM]
        | cons y ys ih=>
          intro hk hy
          cases ks with
          |nil=>simp[wrM]
          | cons k ks=>
            have h1:=OW e y (hy y (by simp)).1 (hy y (by simp)).2
            have h2:=ih false ks (fun z hz=>hk z (by simp[hz])) fun z hz=>hy z (by simp[hz])
            have h3:=Jy k
            have h4:=hk k (by simp)
            rw[wrM,Dx]
            simp only[List.length_append,List.length_cons]
            have:(if b=true then([]:List UInt8)else [44]).length≤1:=by cases b<;>simp
            omega
      have:=key true ks xs hkl fun y hy=>⟨hsub y hy,hx y hy⟩
      simp[wrV];omega
theorem AHv{e:Nat}{xs:List ApiValue} (b:Bool) (h: ∀y,y∈xs→okW e y∧Ex N y=true):(wrI b xs).length≤3700 * Dx xs:=by
  induction xs generalizing b with
  |nil=>simp[wrI]
  | cons y ys ih=>
    have h1:=OW (N:=N) e y (h y (by simp)).1 (h y (by simp)).2
    have h2:=ih false fun z hz=>h z (by simp[hz])
    rw[wrI,Dx]
    simp only[List.length_append]
    have:(if b=true then([]:List UInt8)else [44]).length≤1:=by cases b<;>simp
    omega
theorem AHU{e:Nat}{xs:List ApiValue}{ks:List (List UInt8)} (b:Bool) (hk: ∀k,k∈ks→k.length≤300) (h: ∀y,y∈xs→okW e y∧Ex N y=true):(wrM b ks xs).length≤3700 * Dx xs:=by
  induction xs generalizing b ks with
  |nil=>cases ks<;>simp[wrM]
  | cons y ys ih=>
    cases ks with
    |nil=>simp[wrM]
    | cons k ks=>
      have h1:=OW (N:=N) e y (h y (by simp)).1 (h y (by simp)).2
      have h2:=ih (ks:=ks) false (fun z hz=>hk z (by simp[hz])) fun z hz=>h z (by simp[hz])
      have h3:=Jy k
      have h4:=hk k (by simp)
      rw[wrM,Dx]
      simp only[List.length_append,List.length_cons]
      have:(if b=true then([]:List UInt8)else [44]).length≤1:=by cases b<;>simp
      omega
theorem Re (hN:2000≤N): ∀(D e:Nat) (v:ApiValue),okW e v→e≤D→Gs v≤20000→Ex N v=true→Dt N D v=some (wrV v)
  |0,e,v,h,he,_,_=>by have:=h.pos;omega
  | D+1,e,v,h,he,hc,hs=>by
    obtain⟨e,rfl⟩: ∃k,e=k+1:=⟨e-1,by have:=h.pos;omega⟩
    have ht:=h.text;have hi:=h.items;have hkl:=h.klen;have hsub:=h.sub
    rw[Ih]at hc
    rw[Dt]
    cases OA hs with
    |word k hkw=>rcases hkw with rfl|rfl|rfl<;>rfl
    |num s _=>rfl
    | str s hv=>
      simp only at ht
      rw[if_neg (by simp),if_neg (by simp),if_neg (by simp),if_neg (by simp),if_pos (by rfl),TC s (.inl (by omega)),Option.bind_some,Oc (by omega) hv]
      rfl
    | arr xs hx=>
      simp only at hi hsub hc
      have hw:=AHv (N:=N) true fun y hy=>⟨hsub y hy,hx y hy⟩
      have:=O5 (N:=N) ⟨6,[],[],xs⟩ rfl (Dt N D) (fun j3=>grd (BD (([91]:List UInt8).length+(List.map Fz j3).length)) (grd (BD ((([91]:List UInt8)++(List.map Fz j3)).length+([93]:List UInt8).length)) (some ((([91]:List UInt8)++(List.map Fz j3))++([93]:List UInt8))))) xs true 0 [] (by simp) (by omega) (by omega) (by simp;omega) fun x hm=>Re hN D e x (hsub x hm) (by omega) (by have:=P5 hm;omega) (hx x hm)
      rw[if_neg (by simp),if_neg (by simp),if_neg (by simp),if_neg (by simp),if_neg (by simp)]
      simp only[Ab]
      rw[JA (by omega)]
      refine Eq.trans this ?_
      rw[JA (by rw[Ha];simp;omega),JA (by rw[Ha];simp;omega),Ha]
      simp[wrV]
    | obj ks xs hl hd hx=>
      simp only at hi hsub hc hkl
      have hw:=AHU (N:=N) true hkl fun y hy=>⟨hsub y hy,hx y hy⟩
      have hall: ∀k,k∈ks→(DF N k).isSome=true:=by
        unfold JQ at hd
        rw[Bool.and_eq_true,List.all_eq_true]at hd
        exact hd.2
      have:=O7 (N:=N) ⟨7,[],ks,xs⟩ rfl (Dt N D) (fun j3=>grd (BD (([123]:List UInt8).length+(List.map Fz j3).length)) (grd (BD ((([123]:List UInt8)++(List.map Fz j3)).length+([125]:List UInt8).length)) (some ((([123]:List UInt8)++(List.map Fz j3))++([125]:List UInt8))))) hN xs [] ks true [] rfl hl (by simp) (by simp;omega) (by simp;omega) (fun k hk=>⟨hall k hk,by have:=hkl k hk;omega⟩) fun x hm=>Re hN D e x (hsub x hm) (by omega) (by have:=P5 hm;omega) (hx x hm)
      rw[if_neg (by simp),if_neg (by simp),if_neg (by simp),if_neg (by simp),if_neg (by simp)]
      simp only[Ab]
      rw[JA (by omega)]
      refine Eq.trans this ?_
      rw[JA (by rw[Ha];simp;omega),JA (by rw[Ha];simp;omega),Ha]
      simp[wrV]
end
end Go.VM
namespace Go.VM
theorem TM: ∀(ks:List (List UInt8)) (xs:List ApiValue),ks.length=xs.length→ks.Nodup→(ks.map fun k=>(Ip ks xs k).1)=xs
  |[],[],_,_=>rfl
  | k::ks,x::xs,h,hn=>by
    rw[List.nodup_cons]at hn
    have ih:=TM ks xs (by simpa using h) hn.2
    rw[List.map_cons]
    congr 1
    · simp[Ip]
    · conv=>rhs;rw[←ih]
      apply List.map_congr_left
      intro y hy
      have: ¬k=y:=fun e=>hn.1 (e▸hy)
      rw[Ip,if_neg (by simpa using this)]
theorem ACe{ks:List (List UInt8)}{xs:List ApiValue} (h:ks.length=xs.length) (hn:ks.Nodup):((Hy ks).map fun k=>(Ip ks xs k).1).Perm xs:=by
  have:=(JB ks).map fun k=>(Ip ks xs k).1
  rw[TM ks xs h hn]at this
  exact this
theorem Zt{xs ys:List ApiValue} (h:xs.Perm ys):Dx xs=Dx ys:=by
  induction h with
  |nil=>rfl
  |cons x _ ih=>rw[Dx,Dx,ih]
  |swap x y l=>simp only[Dx];omega
  |trans _ _ h1 h2=>rw[h1,h2]
theorem ZX{xs ys:List ApiValue} (h:xs.Perm ys):Er xs=Er ys:=by
  induction h with
  |nil=>rfl
  |cons x _ ih=>rw[Er,Er,ih]
  |swap x y l=>simp only[Er];omega
  |trans _ _ h1 h2=>rw[h1,h2]
section
variable{N:Nat}
theorem AAJ{l m:List (List UInt8)} (h:l.Perm m):JQ N l=JQ N m:=by
  unfold JQ
  have e1:decide l.Nodup=decide m.Nodup:=by rw[decide_eq_decide];exact h.nodup_iff
  have e2:(l.all fun k=>(DF N k).isSome)=m.all fun k=>(DF N k).isSome:=by
    rw[Bool.eq_iff_iff,List.all_eq_true,List.all_eq_true]
    exact⟨fun k x hx=>k x (h.mem_iff.2 hx),fun k x hx=>k x (h.mem_iff.1 hx)⟩
  rw[e1,e2]
theorem PU{ks:List (List UInt8)} (h:JQ N ks=true):ks.Nodup:=by
  unfold JQ at h
  rw[Bool.and_eq_true,decide_eq_true_eq]at h
  exact h.1
theorem ADt{ks:List (List UInt8)} (h:JQ N ks=true): ∀k,k∈ks→(DF N k).isSome=true:=by
  unfold JQ at h
  rw[Bool.and_eq_true,List.all_eq_true]at h
  exact h.2
theorem Vw (xs:List ApiValue):Cr ⟨6,[],[],xs⟩=⟨6,[],[],xs.map Cr⟩:=by rw[Cr,Jf];rfl
theorem Vs (ks:List (List UInt8)) (xs:List ApiValue):Cr ⟨7,[],ks,xs⟩=⟨7,[],Hy ks,(Hy ks).map fun k=>(Ip ks (xs.map Cr) k).1⟩:=by rw[Cr,Jf];rfl
theorem Hu{k:Int}{s:List UInt8} (h:k≠6):Cr ⟨k,s,[],[]⟩=⟨k,s,[],[]⟩:=by rw[Cr,if_neg (by simpa using h),I8];rfl
theorem ME{B:Nat}: ∀(e:Nat) (v:ApiValue),okB B e v→Ex N v=true→okB B e (Cr v)∧Ex N (Cr v)=true∧Gs (Cr v)=Gs v∧IA (Cr v)=IA v
  |0,v,h,_=>by have:=h.pos;omega
  | e+1,v,h,hs=>by
    have ht:=h.text;have hsub:=h.sub;have hkl:=h.klen;have hk:=h.keys;have hi:=h.items
    cases OA hs with
    |word k hkw=>rw[Hu (by omega)];exact⟨h,hs,rfl,rfl⟩
    |num s _=>rw[Hu (by decide)];exact⟨h,hs,rfl,rfl⟩
    |str s _=>rw[Hu (by decide)];exact⟨h,hs,rfl,rfl⟩
    | arr xs hx=>
      simp only at hsub hi
      have ih:=fun x hm=>ME e x (hsub x hm) (hx x hm)
      have hc: ∀ys:List ApiValue,(∀y,y∈ys→Gs (Cr y)=Gs y∧IA (Cr y)=IA y)→Dx (ys.map Cr)=Dx ys∧Er (ys.map Cr)=Er ys:=by
        intro ys
        induction ys with
        |nil=>intro _;exact⟨rfl,rfl⟩
        | cons y ys ih2=>
          intro hy
          have h1:=hy y (by simp)
          have h2:=ih2 fun z hz=>hy z (by simp[hz])
          simp only[List.map_cons,Dx,Er,h1.1,h1.2,h2.1,h2.2,and_self]
      obtain⟨c1,c2⟩:=hc xs fun y hy=>⟨(ih y hy).2.2.1,(ih y hy).2.2.2⟩
      rw[Vw]
      refine⟨.mk _ (by simp) (by simp) (by simp) (by simpa using hi) fun x hm=>?_,?_,?_,?_⟩
      · simp only[List.mem_map]at hm
        obtain⟨y,hy,rfl⟩:=hm
        exact(ih y hy).1
      · refine(Shp.arr (xs.map Cr) fun x hm=>?_).b
        simp only[List.mem_map]at hm
        obtain⟨y,hy,rfl⟩:=hm
        exact(ih y hy).2.1
      · rw[Ih,Ih];simp only[c1]
      · rw[Kl,Kl];simp only[c2]
    | obj ks xs hl hd hx=>
      simp only at hsub hi hkl hk
      have ih:=fun x hm=>ME e x (hsub x hm) (hx x hm)
      have hc: ∀ys:List ApiValue,(∀y,y∈ys→Gs (Cr y)=Gs y∧IA (Cr y)=IA y)→Dx (ys.map Cr)=Dx ys∧Er (ys.map Cr)=Er ys:=by
        intro ys
        induction ys with
        |nil=>intro _;exact⟨rfl,rfl⟩
        | cons y ys ih2=>
          intro hy
          have h1:=hy y (by simp)
          have h2:=ih2 fun z hz=>hy z (by simp[hz])
          simp only[List.map_cons,Dx,Er,h1.1,h1.2,h2.1,h2.2,and_self]
      obtain⟨c1,c2⟩:=hc xs fun y hy=>⟨(ih y hy).2.2.1,(ih y hy).2.2.2⟩
      have hp:=ACe (ks:=ks) (xs:=xs.map Cr) (by simpa using hl) (PU hd)
      have hpk:=JB ks
      have hlen:=hp.length_eq
      rw[Vs]
      refine⟨.mk _ (by simp) (by rw[hpk.length_eq];exact hk) (fun k hkm=>hkl k (hpk.mem_iff.1 hkm)) (by simp only[];rw[hlen];simpa using hi) fun x hm=>?_,?_,?_,?_⟩
      · have hm:=hp.mem_iff.1 hm
        simp only[List.mem_map]at hm
        obtain⟨y,hy,rfl⟩:=hm
        exact(ih y hy).1
      · refine(Shp.obj _ _ (by simp) (by rw[AAJ hpk];exact hd) fun x hm=>?_).b
        have hm:=hp.mem_iff.1 hm
        simp only[List.mem_map]at hm
        obtain⟨y,hy,rfl⟩:=hm
        exact(ih y hy).2.1
      · rw[Ih,Ih];simp only[Zt hp,c1]
      · rw[Kl,Kl];simp only[ZX hp,c2]
theorem Qd (k2:Int→Option Bool): ∀(ks:List (List UInt8)) (n:Nat),n+301 * ks.length≤1000000→(∀k,k∈ks→k.length≤300)→ ∃m:Nat,m≤n+301 * ks.length∧D5 N k2 ks (n:Int)=k2 (m:Int)
  |[],n,_,_=>⟨n,by omega,by rw[D5]⟩
  | k::ks,n,hn,hk=>by
    simp only[List.length_cons]at hn
    have h1:=hk k (by simp)
    obtain⟨m,h2,h3⟩:=Qd k2 ks (n+k.length) (by omega) fun x hx=>hk x (by simp[hx])
    refine⟨m,by simp only[List.length_cons];omega,?_⟩
    rw[D5,show(n:Int)+(k.length:Int)=((n+k.length:Nat):Int) by simp,Hd (by omega),h3]
theorem RQ (rc:ApiValue→Option Bool) (k7:Unit→Option Bool): ∀xs:List ApiValue,(∀x,x∈xs→rc x=some false)→De N rc k7 xs=k7 ()
  |[],_=>by rw[De]
  |x::xs,h=>by rw[De,h x (by simp),Option.bind_some,if_neg (by simp),RQ rc k7 xs fun y hy=>h y (by simp[hy])]
theorem ABb: ∀(D e:Nat) (v:ApiValue),okW e v→e≤D→Ef N D v=some false
  |0,e,v,h,he=>by have:=h.pos;omega
  | D+1,e,v,h,he=>by
    obtain⟨e,rfl⟩: ∃k,e=k+1:=⟨e-1,by have:=h.pos;omega⟩
    have ht:=h.text;have hk:=h.keys;have hi:=h.items
    rw[Ef]
    simp only[Ab]
    rw[JA (by omega)]
    obtain⟨m,h1,h2⟩:=Qd (N:=N) (fun j1=>if decide (j1>1048576)=true then some true else grd (BD v.items.length) (De N (Ef N D) (fun j6=>some false) v.items)) v.keys v.text.length (by omega) h.klen
    refine h2.trans ?_
    rw[if_neg (by simp;omega),JA (by omega),RQ _ _ _ fun x hx=>ABb D e x (h.sub x hx) (by omega)]
def LQ (N:Nat) (v:ApiValue):Bool:=decide (IA v≤64)&&Ex N v
theorem AE1 (hN:2000≤N){v:ApiValue} (h:okW 70 v) (hc:Gs v≤280):JJ N v=some (if LQ N v=true then(wrV (Cr v),0)else([],8)):=by
  unfold JJ
  rw[RV hN h (by omega),Option.bind_some]
  show(if LQ N v=true then _ else _)=_
  by_cases hv:LQ N v=true
  · rw[if_pos hv,if_pos hv,ABb N 70 v h (by omega),Option.bind_some,if_neg (by simp)]
    have hs:Ex N v=true:=by unfold LQ at hv;rw[Bool.and_eq_true]at hv;exact hv.2
    obtain⟨o1,o2,o3,o4⟩:=ME (N:=N) 70 v h hs
    have hl:=OW (N:=N) 70 (Cr v) o1 o2
    rw[Np hN N 70 v h (by omega) hs,Option.bind_some,Re hN N 70 (Cr v) o1 (by omega) (by omega) o2,Option.bind_some,if_neg (by simp only[decide_eq_true_eq];omega)]
  · rw[if_neg hv,if_neg hv]
end
end Go.VM
