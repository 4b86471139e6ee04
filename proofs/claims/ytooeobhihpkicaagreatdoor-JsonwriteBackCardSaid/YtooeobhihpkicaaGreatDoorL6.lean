import Derived.Test.YtooeobhihpkicaaGreatDoorL5
set_option linter.unusedVariables false
set_option linter.unusedSimpArgs false
namespace Go.VM
section
variable{N:Nat}
theorem ABZ (k29:List UInt8→Option (List UInt8×Int)): ∀(l:List UInt8) (k:Nat),l.length<k→ED N k29 k l=k29 (l.dropWhile (· ==48))
  |[],k+1,_=>by rw[ED,AZ];rfl
  | x::l,k+1,h=>by
    simp only[List.length_cons]at h
    rw[ED,AZ,if_pos (by simp<;>omega),show idx (x::l) 0=some x from rfl,Option.bind_some,List.dropWhile_cons]
    try dsimp only
    rw[show(Am x==48)=(x==48)from Nq x 48]
    cases x==48
    · rfl
    · rw[if_pos rfl,Jl,Option.bind_some,ABZ k29 l k (by omega)];rfl
theorem ABi (k40:Int×List UInt8→Option (List UInt8×Int)): ∀(n:Nat) (l:List UInt8) (x:Int),l.length=n→n≤2^50→(∃c r,l=c::r∧(c==48)=false)→ -(2^60)≤x→x+n≤2^60→ ∀k:Nat,n<k→Ed N k40 k x l=k40 (x+l.length-(Ih (· ==48) l).length,Ih (· ==48) l)
  |0,l,x,hl,hb,⟨c,r,e,hc⟩,h1,h3,k,hk=>by rw[e]at hl;simp at hl
  |n+1,l,x,hl,hb,hh,h1,h3,0,hk=>by omega
  | n+1,l,x,hl,hb,hh,h1,h3,k+1,hk=>by
    obtain⟨l',y,rfl⟩: ∃l' y,l=l'++[y]:=by
      have hne:l≠ []:=fun e=>by subst e;simp at hl
      exact⟨l.dropLast,l.getLast hne,(List.dropLast_concat_getLast hne).symm⟩
    have hl':l'.length=n:=by simpa using hl
    rw[Ed,Za l' y (by omega),Option.bind_some,Mx,show(Am y==48)=(y==48)from Nq y 48]
    by_cases hy:(y==48)=true
    · rw [if_pos hy,if_pos hy,Zb l' y (by omega),Option.bind_some,Ai (by omega)]
      have hh': ∃c r,l'=c::r∧(c==48)=false:=by
        obtain⟨c,r,e,hc⟩:=hh
        cases l' with
        | nil=>
          simp only[List.nil_append,List.cons.injEq]at e
          rw[e.1,hc]at hy;cases hy
        | cons a l'=>
          simp only[List.cons_append,List.cons.injEq]at e
          exact⟨a,l',rfl,by rw[e.1];exact hc⟩
      rw[ABi k40 n l' (x+1) hl' (by omega) hh' (by omega) (by omega) k (by omega)]
      congr 2
      simp only[List.length_append,List.length_cons,List.length_nil];omega
    · rw[if_neg hy,if_neg hy]
      congr 2;omega
theorem O1 (set:List UInt8) (hs:set.length≤1000) (k2:Unit→Option Int) (n:Int) (h:k2 ()=some n): ∀(l:List UInt8) (i:Nat),((i+l.length:Nat):Int)=n→Dj N set k2 l (i:Int)=some ((i+(l.takeWhile fun c=>!set.contains c).length:Nat):Int)
  |[],i,hn=>by rw[Dj,h,←hn];simp
  | c::l,i,hn=>by
    rw[Dj,Oq _ _ hs,Option.bind_some,List.takeWhile_cons]
    cases hc:set.contains c
    · simp only[List.length_cons]at hn
      rw[if_neg (by decide),show(i:Int)+1=((i+1:Nat):Int) by simp,O1 set hs k2 n h l (i+1) (by rw[←hn];congr 1;omega)]
      simp only[Bool.not_false,if_true,List.length_cons];congr 2;omega
    · simp
theorem Tg (l set:List UInt8) (hs:set.length≤1000) (hb:l.length≤2^60):IB N l set=some (((l.takeWhile fun c=>!set.contains c).length:Nat):Int):=by
  unfold IB
  rw[AZ,AY (by unfold BX;omega),show(0:Int)=((0:Nat):Int)from rfl,O1 set hs _ _ rfl l 0 (by simp)]
  simp
theorem Ot{p:UInt8→Bool}: ∀ {a b:List UInt8},(∀c∈a,p c=true)→(b=[]∨ ∃c r,b=c::r∧p c=false)→(a++b).takeWhile p=a
  | [],b,_,hb=>by
    rcases hb with rfl|⟨c,r,rfl,hc⟩
    · rfl
    · rw[List.nil_append,List.takeWhile_cons,hc];rfl
  | x::a,b,ha,hb=>by
    rw[List.cons_append,List.takeWhile_cons,ha x (by simp),if_pos rfl,Ot (fun c hc=>ha c (by simp[hc])) hb]
section
variable{s sg W F FR P EX:List UInt8}
theorem UF{l:List UInt8} (h:l.all Du=true): ∀c∈l,Du c=true:=by simpa using h
theorem ABp{c:UInt8} (h:Du c=true):([101,69]:List UInt8).contains c=false:=by
  have:=Fg (f:=fun n=>if(decide (48≤n)&&decide (n≤57))=true then([101,69]:List UInt8).contains (UInt8.ofNat n)else false) (g:=fun _=>false) (by kernel_rfl) c
  simp only[UInt8.ofNat_toNat,show(decide (48≤c.toNat)&&decide (c.toNat≤57))=true from h,if_true]at this
  exact this
theorem AIc{c:UInt8} (h:Du c=true):([46]:List UInt8).contains c=false:=by
  rw[M9]
  have:=KA h
  have: ¬c.toNat=(46:UInt8).toNat:=by show¬c.toNat=46;omega
  simpa using this
theorem AHZ (h:NumP s sg W F FR P EX) (hn:EE s=s.length) (hb:s.length≤2^48) (hN:s.length+30<N):D6 N s=some (Ji sg (W++F) (Jw (2^30) P-F.length)):=by
  obtain⟨l1,l2,l3⟩:=h.len
  have hne:s≠ []:=by
    rw[h.eq]
    intro e
    have:=List.append_eq_nil_iff.1 e
    have:=List.append_eq_nil_iff.1 this.2
    exact h.Wn this.1
  unfold D6
  refine(CO (a:=false) fun k2=>?_).trans ?_
  · rw[if_neg (by simpa using hne),MG s (by omega) (by omega),Option.bind_some,hn];simp
  try dsimp only
  rw[if_neg (by decide)]
  have hhead: ∀k8:List UInt8×List UInt8→Option (List UInt8×Int),(Option.bind (idx s 0) fun x11=>if(Am x11==45)=true then Option.bind (sub s 1 (s.length:Int)) fun x12=>k8 (x12,[45])else k8 (s,[]))=k8 (W++(FR++EX),sg):=by
    intro k7
    rcases h.sg with e|e
    · have hs:s=W++(FR++EX):=by rw[h.eq,e];rfl
      cases hW:W with
      |nil=>exact absurd hW h.Wn
      | cons c W'=>
        have hc:Du c=true:=by
          have:=h.Wd
          rw[hW,List.all_cons,Bool.and_eq_true]at this
          exact this.1
        have hs2:s=c::(W'++(FR++EX)):=by rw[hs,hW];rfl
        rw[hs2,show idx (c::(W'++(FR++EX))) 0=some c from rfl,Option.bind_some,AEx,M9]
        have:=KA hc
        have: ¬c.toNat=(45:UInt8).toNat:=by show¬c.toNat=45;omega
        rw[if_neg (by simpa using this),e];rfl
    · have hs2:s=45::(W++(FR++EX)):=by rw[h.eq,e];rfl
      rw[hs2,show idx (45::(W++(FR++EX))) 0=some 45 from rfl,Option.bind_some,if_pos (by rfl),Jl,Option.bind_some,e]
  refine(CO (a:=(W++(FR++EX),sg)) fun k8=>hhead k8).trans ?_
  try dsimp only
  have hWF:(W++(FR++EX)).takeWhile (fun c=>!([101,69]:List UInt8).contains c)=W++FR:=by
    rw[←List.append_assoc]
    refine Ot (fun c hc=>?_) ?_
    · rcases List.mem_append.1 hc with hc|hc
      · rw[ABp (UF h.Wd c hc)];rfl
      · rcases h.fr with⟨e1,e2⟩|e
        · rw[e1]at hc;cases hc
        · rw[e]at hc
          rcases List.mem_cons.1 hc with rfl|hc
          · rfl
          · rw[ABp (UF h.Fd c hc)];rfl
    · rcases h.ex with⟨e1,e2⟩|e|e
      · exact .inl e1
      · exact .inr ⟨_,_,e,rfl⟩
      · exact .inr ⟨_,_,e,rfl⟩
  have hlen:(W++(FR++EX)).length=(W++FR).length+EX.length:=by simp only[List.length_append];omega
  rw[Tg _ _ (by decide) (by simp;omega),Option.bind_some,hWF,Ai (by simp;omega),show(((W++FR).length:Nat):Int)+1=(((W++FR).length+1:Nat):Int) by simp,QE,Option.bind_some]
  have hP:(W++(FR++EX)).drop ((W++FR).length+1)=P:=by
    rw[←List.append_assoc,List.drop_append,List.drop_of_length_le (by omega),List.nil_append,Nat.add_sub_cancel_left]
    rcases h.ex with⟨e1,e2⟩|e|e
    · rw[e1,e2];rfl
    · rw[e];rfl
    · rw[e];rfl
  rw[hP,AHa h.pw (by omega),Option.bind_some]
  have hsub:sub (W++(FR++EX)) 0 (((W++FR).length:Nat):Int)=some (W++FR):=by
    rw[show(0:Int)=((0:Nat):Int)from rfl,FE _ 0 _ (by omega) (by omega),←List.append_assoc]
    simp only[List.drop_zero,Nat.sub_zero,List.take_left]
  rw[hsub,Option.bind_some]
  have hev: -(2^30:Int)≤Jw (2^30) P∧Jw (2^30) P≤(2^30:Int):=by
    unfold Jw
    have:min (H5 0 (P.dropWhile ([43,45]:List UInt8).contains)) (2^30)≤2^30:=Nat.min_le_right _ _
    split<;>omega
  generalize Jw (2^30) P=x at *
  have hdot:(W++FR).takeWhile (fun c=>!([46]:List UInt8).contains c)=W:=by
    refine Ot (fun c hc=>?_) ?_
    · rw[AIc (UF h.Wd c hc)];rfl
    · rcases h.fr with⟨e1,e2⟩|e
      · exact .inl e1
      · exact .inr ⟨_,_,e,rfl⟩
  refine(CO (a:=(x-(F.length:Int),W++F)) fun k21=>?_).trans ?_
  · rw [Tg _ _ (by decide) (by simp;omega),Option.bind_some,hdot]
    rcases h.fr with⟨e1,e2⟩|e
    · rw[e1,e2,List.append_nil,if_neg (by simp)];simp
    · have hfl:FR.length=F.length+1:=by rw[e];simp
      have w1:wr .i64 ((W.length:Int)+1)=((W.length+1:Nat):Int):=by rw[Ai (by omega)];simp
      have s1:sub (W++FR) 0 (W.length:Int)=some W:=by
        rw[show(0:Int)=((0:Nat):Int)from rfl,FE _ 0 _ (by omega) (by simp)];simp only[List.drop_zero,Nat.sub_zero,List.take_left]
      have s2:sub (W++FR) ((W.length+1:Nat):Int) (((W++FR).length:Nat):Int)=some F:=by
        rw[FE _ _ _ (by simp;omega) (Nat.le_refl _),List.take_of_length_le (by simp<;>omega),List.drop_append,List.drop_of_length_le (by omega),List.nil_append,Nat.add_sub_cancel_left,e];rfl
      rw[if_pos (by simp;omega),s1,Option.bind_some,w1,s2,Option.bind_some,AY (by unfold BX;omega)]
      have w2:wr .i64 (x-wr .i64 (wr .i64 ((((W++FR).length:Nat):Int)-(W.length:Int))-1))=x-(F.length:Int):=by
        rw[List.length_append,Ai (n:=((W.length+FR.length:Nat):Int)-(W.length:Int)) (by omega),Ai (n:=((W.length+FR.length:Nat):Int)-(W.length:Int)-1) (by omega),Ai (by omega)]
        omega
      rw[w2]
  try dsimp only
  have hml:=(List.dropWhile_sublist (fun x:UInt8=>x==48) (l:=W++F)).length_le
  rw[List.length_append]at hml
  refine(CO (a:=(W++F).dropWhile (· ==48)) fun k29=>ABZ k29 (W++F) N (by simp;omega)).trans ?_
  try dsimp only
  have hhd:(W++F).dropWhile (fun x:UInt8=>x==48)=[]∨ ∃c r,(W++F).dropWhile (fun x:UInt8=>x==48)=c::r∧(c==48)=false:=by
    generalize W++F=l
    induction l with
    |nil=>exact .inl rfl
    | cons c l ih=>
      rw[List.dropWhile_cons]
      cases hc:(c==48)
      · exact .inr ⟨c,l,rfl,hc⟩
      · exact ih
  have htl:=QP (fun x:UInt8=>x==48) ((W++F).dropWhile (fun x:UInt8=>x==48))
  unfold Ji
  dsimp only
  generalize hm1:(W++F).dropWhile (fun x:UInt8=>x==48)=m1 at *
  by_cases hz:m1=[]
  · subst hz;rfl
  have hhd': ∃c r,m1=c::r∧(c==48)=false:=by
    rcases hhd with e|e
    · exact absurd e hz
    · exact e
  have hsz:Ih (fun x:UInt8=>x==48) m1≠ []:=by
    obtain⟨c,r,rfl,hc⟩:=hhd'
    have key: ∀(n:Nat) (r:List UInt8),r.length=n→Ih (fun x:UInt8=>x==48) (c::r)≠ []:=by
      intro n
      induction n with
      | zero=>
        intro r hr
        have:r=[]:=List.length_eq_zero_iff.1 hr
        subst this
        unfold Ih;simp[hc]
      | succ n ih=>
        intro r hr
        obtain⟨r',y,rfl⟩: ∃l' y,r=l'++[y]:=by
          have hne:r≠ []:=fun e=>by subst e;simp at hr
          exact⟨r.dropLast,r.getLast hne,(List.dropLast_concat_getLast hne).symm⟩
        rw[←List.cons_append,Mx]
        split
        · exact ih r' (by simpa using hr)
        · simp
    exact key _ r rfl
  rw[if_neg (by simpa using hz),if_neg hsz]
  refine(CO (a:=(x-(F.length:Int)+(m1.length:Int)-((Ih (fun x:UInt8=>x==48) m1).length:Int),Ih (fun x:UInt8=>x==48) m1)) fun k40=>ABi k40 m1.length m1 _ rfl (by omega) hhd' (by omega) (by omega) N (by omega)).trans ?_
  try dsimp only
  generalize hsh:Ih (fun x:UInt8=>x==48) m1=sh at *
  generalize hy:x-(F.length:Int)+(m1.length:Int)-(sh.length:Int)=y at *
  have hsg:sg.length≤1:=by rcases h.sg with e|e<;>rw[e]<;>simp
  refine(CO (a:=decide (sh.length>40∨y< -400∨y>400)) fun k26=>?_).trans ?_
  · by_cases c1:(sh.length:Int)>40
    · rw[if_pos (decide_eq_true c1),decide_eq_true (.inl (by omega))]
    · rw[if_neg (by simpa using c1)]
      by_cases c2:y>400
      · rw[if_pos (decide_eq_true c2),decide_eq_true (.inr (.inr c2))]
      · rw[if_neg (by simpa using c2)]
        congr 1
        simp only[eq_iff_iff,decide_eq_decide];omega
  try dsimp only
  by_cases hc:sh.length>40∨y< -400∨y>400
  · rw[if_pos (decide_eq_true hc),if_pos hc]
  rw[if_neg (by simpa using hc),if_neg hc]
  have hc': ¬(sh.length>40)∧ ¬y< -400∧ ¬y>400:=⟨fun h=>hc (.inl h),fun h=>hc (.inr (.inl h)),fun h=>hc (.inr (.inr h))⟩
  have hf:=Yi
  unfold AK0
  by_cases c1:y<0
  · rw[if_pos (decide_eq_true c1),if_pos c1,AY (by unfold BX;omega),AY (by unfold BX;simp;omega),Ai (by omega),P5 (by omega) (by omega),Ri _ (by omega) (by omega),Option.bind_some]
    have:=hf (0-y).toNat
    have:=hf (-y).toNat
    rw[AY (by unfold BX;simp;omega),show(0-y).toNat=(-y).toNat by omega]
    simp
  · rw[if_neg (by simpa using c1),if_neg c1]
    by_cases c2:y>0
    · have:=hf y.toNat
      rw[if_pos (decide_eq_true c2),if_pos c2,AY (by unfold BX;omega),AY (by unfold BX;simp;omega),P5 (by omega) (by omega),Ri _ (by omega) (by omega),Option.bind_some,AY (by unfold BX;simp;omega)]
      simp
    · rw[if_neg (by simpa using c2),if_neg c2,AY (by unfold BX;omega)]
      simp
end
theorem AGN (s:List UInt8) (hn:s=[]∨EE s≠s.length) (hb:s.length≤2^48):EU N s=some ([],130):=by
  unfold EU
  have hp:=QL (N:=N) (l:=s) (t:=s) (i:=0) (by simp) (by omega) (by omega)
  by_cases hz:EE s=0
  · rw[if_pos hz]at hp
    obtain⟨q,hq⟩:=hp
    have hq':Ch N (TokenReader.mk s 0)=some ([],false,q):=hq
    rw[hq',Option.bind_some];rfl
  · rw[if_neg hz]at hp
    have hp':Ch N (TokenReader.mk s 0)=some (s.take (EE s),true,(⟨s,((0+EE s:Nat):Int)⟩:TokenReader)):=hp
    rw[hp',Option.bind_some]
    refine(CO (a:=true) fun k4=>?_).trans rfl
    have hle:=Vi s
    have hne:EE s≠s.length:=by
      rcases hn with rfl|h
      · exact absurd rfl hz
      · exact h
    rw[if_pos rfl,List.length_take,Nat.min_eq_left hle]
    congr 1
    simp only[bne_iff_ne,ne_eq];omega
theorem AFI (s:List UInt8) (hn:s=[]∨EE s≠s.length) (hb:s.length≤2^48) (hN:s.length+30<N):D6 N s=some ([],130):=by
  unfold D6
  refine(CO (a:=true) fun k2=>?_).trans rfl
  by_cases h:s=[]
  · subst h;rfl
  · have hne:EE s≠s.length:=by
      rcases hn with e|e
      · exact absurd e h
      · exact e
    rw[if_neg (by simpa using h),MG s (by omega) (by omega),Option.bind_some]
    congr 1
    simp only[bne_iff_ne,ne_eq];omega
end
end Go.VM
namespace Go.VM
theorem P7{p:UInt8→Bool} (l:List UInt8):(l.dropWhile p).length≤l.length:=(List.dropWhile_sublist p (l:=l)).length_le
theorem XU{sg m:List UInt8}{x y:Int} (hm:m.length≤2000000) (h:x=y∨(100000000≤x∧100000000≤y)∨(x≤ -100000000∧y≤ -100000000)):Ji sg m x=Ji sg m y:=by
  unfold Ji
  dsimp only
  have h1:=P7 (p:=fun x:UInt8=>x==48) m
  have h2:=QP (fun x:UInt8=>x==48) (m.dropWhile (fun x:UInt8=>x==48))
  generalize m.dropWhile (fun x:UInt8=>x==48)=m1 at *
  generalize Ih (fun x:UInt8=>x==48) m1=sh at *
  by_cases hz:sh=[]
  · rw[if_pos hz,if_pos hz]
  · rw[if_neg hz,if_neg hz]
    rcases h with rfl|⟨ha,hb⟩|⟨ha,hb⟩
    · rfl
    · rw[if_pos (.inr (.inr (by omega))),if_pos (.inr (.inr (by omega)))]
    · rw[if_pos (.inr (.inl (by omega))),if_pos (.inr (.inl (by omega)))]
theorem ADA (P:List UInt8) (f:Nat) (hf:f≤2000000):Jw (2^40) P-f=Jw (2^30) P-f∨(100000000≤Jw (2^40) P-f∧100000000≤Jw (2^30) P-f)∨(Jw (2^40) P-f≤ -100000000∧Jw (2^30) P-f≤ -100000000):=by
  unfold Jw
  generalize H5 0 (P.dropWhile ([43,45]:List UInt8).contains)=v
  by_cases h:v≤2^30
  · rw[Nat.min_eq_left (show v≤2^40 by omega),Nat.min_eq_left h];exact .inl rfl
  · rw[Nat.min_eq_right (show 2^30≤v by omega)]
    have h2:2^30≤min v (2^40):=Nat.le_min.2 ⟨by omega,by decide⟩
    split
    · exact .inr (.inr ⟨by omega,by omega⟩)
    · exact .inr (.inl ⟨by omega,by omega⟩)
theorem AAH (sg m:List UInt8) (x:Int):(Ji sg m x).2=0∨Ji sg m x=([],144):=by
  unfold Ji
  dsimp only
  split
  · exact .inl rfl
  · split
    · exact .inr rfl
    · exact .inl rfl
def AAw (N:Nat) (s:List UInt8):List UInt8×Int:=(EU N s).getD ([],144)
theorem AEm{N:Nat}{s:List UInt8} (h0:s≠ []) (hn:EE s=s.length) (hb:s.length≤2000000) (hN:s.length+30<N):
    EU N s=some (AAw N s)∧D6 N s=some (AAw N s)∧((AAw N s).2=0∨AAw N s=([],144)):=by
  obtain⟨sg,W,F,FR,P,EX,h⟩:=TU h0 hn
  obtain⟨l1,l2,l3⟩:=h.len
  have e1:=AJK (N:=N) h hn (by omega) hN
  have e2:=AHZ (N:=N) h hn (by omega) hN
  have e3:AAw N s=Ji sg (W++F) (Jw (2^40) P-F.length):=by unfold AAw;rw[e1];rfl
  refine⟨by rw[e3];exact e1,?_,by rw[e3];exact AAH _ _ _⟩
  rw[e2,e3,XU (by rw[List.length_append];omega) (ADA P F.length (by omega))]
end Go.VM
namespace Go.VM
mutual
def Ha:ApiValue→Nat
  |⟨kind,_,_,items⟩=>(if kind==6||kind==7 then 1 else 0)+DW items
def DW:List ApiValue→Nat
  |[]=>0
  |x::xs=>max (Ha x) (DW xs)
end
theorem JK (v:ApiValue):Ha v=(if v.kind==6||v.kind==7 then 1 else 0)+DW v.items:=by cases v;rw[Ha]
theorem Nw (v:ApiValue):0<Hl v:=by rw[I4];omega
section
variable{N:Nat}
def Vu (N:Nat) (s:List UInt8):List UInt8×Int:=if s≠ []∧EE s=s.length then AAw N s else([],130)
theorem ABY (s:List UInt8) (hb:s.length≤2000000) (hN:s.length+30<N):D6 N s=some (Vu N s)∧EU N s=some (Vu N s):=by
  unfold Vu
  by_cases h:s≠ []∧EE s=s.length
  · rw[if_pos h]
    obtain⟨h1,h2,_⟩:=AEm h.1 h.2 hb hN
    exact⟨h2,h1⟩
  · rw[if_neg h]
    have hb':s=[]∨EE s≠s.length:=by
      by_cases h1:s=[]
      · exact .inl h1
      · exact .inr fun h2=>h ⟨h1,h2⟩
    exact⟨AFI s hb' (by omega) hN,AGN s hb' (by omega)⟩
def PY (N:Nat) (s:List UInt8):Bool:=(Vu N s).2==0&&(Vu N s).1==s
mutual
def E9 (N:Nat):ApiValue→Bool
  | ⟨kind,text,keys,items⟩=>
    if kind==1||kind==2||kind==3 then text==[]&&keys.isEmpty&&items.isEmpty
    else if kind==4 then PY N text&&keys.isEmpty&&items.isEmpty
    else if kind==5 then(EN N text).isSome&&keys.isEmpty&&items.isEmpty
    else if kind==6 then text==[]&&keys.isEmpty&&Jg N items
    else if kind==7 then text==[]&&decide (keys.length=items.length)&&Kg N keys&&Jg N items
    else false
def Jg (N:Nat):List ApiValue→Bool
  |[]=>true
  |x::xs=>E9 N x&&Jg N xs
end
end
end Go.VM
namespace Go.VM
mutual
def CF:ApiValue→ApiValue
  |⟨kind,text,keys,items⟩=>if kind==6 then⟨kind,text,[],WQ items⟩else⟨kind,text,Ic keys,(Ic keys).map fun k=>(Gn keys (WQ items) k).1⟩
def WQ:List ApiValue→List ApiValue
  |[]=>[]
  |x::xs=>CF x::WQ xs
end
theorem Kk: ∀xs:List ApiValue,WQ xs=xs.map CF
  |[]=>rfl
  |x::xs=>by rw[WQ,Kk xs];rfl
mutual
def wrV:ApiValue→List UInt8
  | ⟨kind,text,keys,items⟩=>
    if kind==1 then [110,117,108,108]else if kind==2 then [102,97,108,115,101]else if kind==3 then [116,114,117,101]else if kind==4 then text
    else if kind==5 then Df text else if kind==7 then 123::(wrM true keys items++[125])else 91::(wrI true items++[93])
def wrI:Bool→List ApiValue→List UInt8
  |_,[]=>[]
  |b,x::xs=>(if b then []else [44])++(wrV x++wrI false xs)
def wrM:Bool→List (List UInt8)→List ApiValue→List UInt8
  |b,k::ks,x::xs=>(if b then []else [44])++(Df k++(58::(wrV x++wrM false ks xs)))
  |_,_,_=>[]
end
theorem Kb{N:Nat}: ∀ {xs:List ApiValue},Jg N xs=true→ ∀x,x∈xs→E9 N x=true
  |[],_,x,hx=>by cases hx
  | y::xs,h,x,hx=>by
    rw[Jg,Bool.and_eq_true]at h
    rcases List.mem_cons.1 hx with rfl|hx
    · exact h.1
    · exact Kb h.2 x hx
theorem QG{N:Nat}: ∀ {xs:List ApiValue},(∀x,x∈xs→E9 N x=true)→Jg N xs=true
  |[],_=>rfl
  |y::xs,h=>by rw[Jg,h y (by simp),QG fun x hx=>h x (by simp[hx])];rfl
inductive Shp (N:Nat):ApiValue→Prop
  |word (k:Int) (hk:k=1∨k=2∨k=3):Shp N ⟨k,[],[],[]⟩
  |num (s:List UInt8) (h:PY N s=true):Shp N ⟨4,s,[],[]⟩
  |str (s:List UInt8) (h:(EN N s).isSome=true):Shp N ⟨5,s,[],[]⟩
  |arr (xs:List ApiValue) (h: ∀x,x∈xs→E9 N x=true):Shp N ⟨6,[],[],xs⟩
  |obj (ks:List (List UInt8)) (xs:List ApiValue) (hl:ks.length=xs.length) (hd:Kg N ks=true) (h: ∀x,x∈xs→E9 N x=true):Shp N ⟨7,[],ks,xs⟩
theorem He{N:Nat}{v:ApiValue} (h:E9 N v=true):Shp N v:=by
  obtain⟨kind,text,keys,items⟩:=v
  rw[E9]at h
  by_cases h1:(kind==1||kind==2||kind==3)=true
  · rw[if_pos h1]at h
    simp only[Bool.and_eq_true,beq_iff_eq,List.isEmpty_iff]at h
    obtain⟨⟨rfl,rfl⟩,rfl⟩:=h
    simp only[Bool.or_eq_true,beq_iff_eq]at h1
    exact .word _ (by omega)
  rw[if_neg h1]at h
  by_cases h4:(kind==4)=true
  · rw[if_pos h4]at h
    simp only[Bool.and_eq_true,List.isEmpty_iff]at h
    obtain⟨⟨hn,rfl⟩,rfl⟩:=h
    rw[beq_iff_eq]at h4;subst h4
    exact .num _ hn
  rw[if_neg h4]at h
  by_cases h5:(kind==5)=true
  · rw[if_pos h5]at h
    simp only[Bool.and_eq_true,List.isEmpty_iff]at h
    obtain⟨⟨hn,rfl⟩,rfl⟩:=h
    rw[beq_iff_eq]at h5;subst h5
    exact .str _ hn
  rw[if_neg h5]at h
  by_cases h6:(kind==6)=true
  · rw[if_pos h6]at h
    simp only[Bool.and_eq_true,beq_iff_eq,List.isEmpty_iff]at h
    obtain⟨⟨rfl,rfl⟩,hs⟩:=h
    rw[beq_iff_eq]at h6;subst h6
    exact .arr _ (Kb hs)
  rw[if_neg h6]at h
  by_cases h7:(kind==7)=true
  · rw[if_pos h7]at h
    simp only[Bool.and_eq_true,beq_iff_eq,decide_eq_true_eq]at h
    obtain⟨⟨⟨rfl,hl⟩,hd⟩,hs⟩:=h
    rw[beq_iff_eq]at h7;subst h7
    exact .obj _ _ hl hd (Kb hs)
  rw[if_neg h7]at h;cases h
theorem Shp.b{N:Nat}{v:ApiValue} (h:Shp N v):E9 N v=true:=by
  cases h with
  |word k hk=>rcases hk with rfl|rfl|rfl<;>rfl
  |num s h=>simp[E9,h]
  |str s h=>simp[E9,h]
  |arr xs h=>simp[E9,QG h]
  |obj ks xs hl hd h=>simp[E9,QG h,hl,hd]
theorem MJ (f:ApiValue→ApiValue): ∀(ks:List (List UInt8)) (xs:List ApiValue) (k:List UInt8),ks.length=xs.length→k∈ks→ ∃x,x∈xs∧Gn ks xs k=(x,true)∧Gn ks (xs.map f) k=(f x,true)
  |[],[],k,_,h=>by cases h
  | a::ks,x::xs,k,hl,h=>by
    by_cases e:a=k
    · exact⟨x,by simp,by simp[Gn,e],by simp[Gn,e]⟩
    · rcases List.mem_cons.1 h with h|h
      · exact absurd h.symm e
      · obtain⟨y,h1,h2,h3⟩:=MJ f ks xs k (by simpa using hl) h
        exact⟨y,by simp[h1],by simp[Gn,e,h2],by simp[Gn,e,h3]⟩
section
variable{N:Nat}
theorem ADM:Ic []=[]:=by simp[Ic]
theorem V6{n:Nat} (h:n≤1000000000):Ez n 72:=by unfold Ez;omega
theorem ADj{s:List UInt8} (hs:s.length≤1048576) (h:(EN N s).isSome=true):Vk N s=(Df s,0):=by
  unfold Vk;rw[if_neg (by omega),if_pos h]
theorem Mw (s:List UInt8):(Df s).length≤6 * s.length+2:=by
  unfold Df
  have:=q_len s
  simp only[List.length_cons,List.length_append,List.length_nil];omega
theorem AFH{n:Nat} (h:n≤1000000000):Ez n 1:=by unfold Ez;omega
theorem ABL: ∀(e:Nat) (v:ApiValue),okW e v→E9 N v=true→(wrV v).length+1850≤3700 * Hl v
  |0,v,h,_=>by have:=h.pos;omega
  | e+1,v,h,hs=>by
    have ht:=h.text;have hsub:=h.sub;have hkl:=h.klen
    rw[I4]
    cases He hs with
    |word k hkw=>rcases hkw with rfl|rfl|rfl<;>(simp only[wrV];decide+revert)<;>simp[wrV,Ce]
    |num s _=>simp only at ht;simp[wrV,Ce];omega
    | str s _=>
      simp only at ht
      have:=Mw s
      simp[wrV,Ce];omega
    | arr xs hx=>
      simp only at hsub
      have key: ∀(b:Bool) (ys:List ApiValue),(∀y,y∈ys→okW e y∧E9 N y=true)→(wrI b ys).length≤3700 * Ce ys:=by
        intro b ys
        induction ys generalizing b with
        |nil=>intro _;simp[wrI]
        | cons y ys ih=>
          intro hy
          have h1:=ABL e y (hy y (by simp)).1 (hy y (by simp)).2
          have h2:=ih false fun z hz=>hy z (by simp[hz])
          rw[wrI,Ce]
          simp only[List.length_append]
          have:(if b=true then([]:List UInt8)else [44]).length≤1:=by cases b<;>simp
          omega
      have:=key true xs fun y hy=>⟨hsub y hy,hx y hy⟩
      simp[wrV];omega
    | obj ks xs hl hd hx=>
      simp only at hsub hkl
      have key: ∀(b:Bool) (ks:List (List UInt8)) (ys:List ApiValue),(∀k,k∈ks→k.length≤300)→(∀y,y∈ys→okW e y∧E9 N y=true)→(wrM b ks ys).length≤3700 * Ce ys:=by
        intro b ks ys
        induction ys generalizing b ks with
        |nil=>intro _ _;cases ks<;>simp[wrM]
        | cons y ys ih=>
          intro hk hy
          cases ks with
          |nil=>simp[wrM]
          | cons k ks=>
            have h1:=ABL e y (hy y (by simp)).1 (hy y (by simp)).2
            have h2:=ih false ks (fun z hz=>hk z (by simp[hz])) fun z hz=>hy z (by simp[hz])
            have h3:=Mw k
            have h4:=hk k (by simp)
            rw[wrM,Ce]
            simp only[List.length_append,List.length_cons]
            have:(if b=true then([]:List UInt8)else [44]).length≤1:=by cases b<;>simp
            omega
      have:=key true ks xs hkl fun y hy=>⟨hsub y hy,hx y hy⟩
      simp[wrV];omega
end
end Go.VM
namespace Go.VM
theorem OO: ∀(ks:List (List UInt8)) (xs:List ApiValue),ks.length=xs.length→ks.Nodup→(ks.map fun k=>(Gn ks xs k).1)=xs
  |[],[],_,_=>rfl
  | k::ks,x::xs,h,hn=>by
    rw[List.nodup_cons]at hn
    have ih:=OO ks xs (by simpa using h) hn.2
    rw[List.map_cons]
    congr 1
    · simp[Gn]
    · conv=>rhs;rw[←ih]
      apply List.map_congr_left
      intro y hy
      have: ¬k=y:=fun e=>hn.1 (e▸hy)
      rw[Gn,if_neg (by simpa using this)]
theorem ADX{ks:List (List UInt8)}{xs:List ApiValue} (h:ks.length=xs.length) (hn:ks.Nodup):((Ic ks).map fun k=>(Gn ks xs k).1).Perm xs:=by
  have:=(D5 ks).map fun k=>(Gn ks xs k).1
  rw[OO ks xs h hn]at this
  exact this
theorem ABN{xs ys:List ApiValue} (h:xs.Perm ys):Ce xs=Ce ys:=by
  induction h with
  |nil=>rfl
  |cons x _ ih=>rw[Ce,Ce,ih]
  |swap x y l=>simp only[Ce];omega
  |trans _ _ h1 h2=>rw[h1,h2]
theorem XH{xs ys:List ApiValue} (h:xs.Perm ys):DW xs=DW ys:=by
  induction h with
  |nil=>rfl
  |cons x _ ih=>rw[DW,DW,ih]
  |swap x y l=>simp only[DW];omega
  |trans _ _ h1 h2=>rw[h1,h2]
section
variable{N:Nat}
theorem AA6{l m:List (List UInt8)} (h:l.Perm m):Kg N l=Kg N m:=by
  unfold Kg
  have e1:decide l.Nodup=decide m.Nodup:=by rw[decide_eq_decide];exact h.nodup_iff
  have e2:(l.all fun k=>(EN N k).isSome)=m.all fun k=>(EN N k).isSome:=by
    rw[Bool.eq_iff_iff,List.all_eq_true,List.all_eq_true]
    exact⟨fun k x hx=>k x (h.mem_iff.2 hx),fun k x hx=>k x (h.mem_iff.1 hx)⟩
  rw[e1,e2]
theorem JD{ks:List (List UInt8)} (h:Kg N ks=true):ks.Nodup:=by
  unfold Kg at h
  rw[Bool.and_eq_true,decide_eq_true_eq]at h
  exact h.1
theorem Og{ks:List (List UInt8)} (h:Kg N ks=true): ∀k,k∈ks→(EN N k).isSome=true:=by
  unfold Kg at h
  rw[Bool.and_eq_true,List.all_eq_true]at h
  exact h.2
theorem KF (xs:List ApiValue):CF ⟨6,[],[],xs⟩=⟨6,[],[],xs.map CF⟩:=by rw[CF,Kk];rfl
theorem KE (ks:List (List UInt8)) (xs:List ApiValue):CF ⟨7,[],ks,xs⟩=⟨7,[],Ic ks,(Ic ks).map fun k=>(Gn ks (xs.map CF) k).1⟩:=by rw[CF,Kk];rfl
theorem Cq{k:Int}{s:List UInt8} (h:k≠6):CF ⟨k,s,[],[]⟩=⟨k,s,[],[]⟩:=by rw[CF,if_neg (by simpa using h),ADM];rfl
theorem NI{B:Nat}: ∀(e:Nat) (v:ApiValue),okB B e v→E9 N v=true→okB B e (CF v)∧E9 N (CF v)=true∧Hl (CF v)=Hl v∧Ha (CF v)=Ha v
  |0,v,h,_=>by have:=h.pos;omega
  | e+1,v,h,hs=>by
    have ht:=h.text;have hsub:=h.sub;have hkl:=h.klen;have hk:=h.keys;have hi:=h.items
    cases He hs with
    |word k hkw=>rw[Cq (by omega)];exact⟨h,hs,rfl,rfl⟩
    |num s _=>rw[Cq (by decide)];exact⟨h,hs,rfl,rfl⟩
    |str s _=>rw[Cq (by decide)];exact⟨h,hs,rfl,rfl⟩
    | arr xs hx=>
      simp only at hsub hi
      have ih:=fun x hm=>NI e x (hsub x hm) (hx x hm)
      have hc: ∀ys:List ApiValue,(∀y,y∈ys→Hl (CF y)=Hl y∧Ha (CF y)=Ha y)→Ce (ys.map CF)=Ce ys∧DW (ys.map CF)=DW ys:=by
        intro ys
        induction ys with
        |nil=>intro _;exact⟨rfl,rfl⟩
        | cons y ys ih2=>
          intro hy
          have h1:=hy y (by simp)
          have h2:=ih2 fun z hz=>hy z (by simp[hz])
          simp only[List.map_cons,Ce,DW,h1.1,h1.2,h2.1,h2.2,and_self]
      obtain⟨c1,c2⟩:=hc xs fun y hy=>⟨(ih y hy).2.2.1,(ih y hy).2.2.2⟩
      rw[KF]
      refine⟨.mk _ (by simp) (by simp) (by simp) (by simpa using hi) fun x hm=>?_,?_,?_,?_⟩
      · simp only[List.mem_map]at hm
        obtain⟨y,hy,rfl⟩:=hm
        exact(ih y hy).1
      · refine(Shp.arr (xs.map CF) fun x hm=>?_).b
        simp only[List.mem_map]at hm
        obtain⟨y,hy,rfl⟩:=hm
        exact(ih y hy).2.1
      · rw[I4,I4];simp only[c1]
      · rw[JK,JK];simp only[c2]
    | obj ks xs hl hd hx=>
      simp only at hsub hi hkl hk
      have ih:=fun x hm=>NI e x (hsub x hm) (hx x hm)
      have hc: ∀ys:List ApiValue,(∀y,y∈ys→Hl (CF y)=Hl y∧Ha (CF y)=Ha y)→Ce (ys.map CF)=Ce ys∧DW (ys.map CF)=DW ys:=by
        intro ys
        induction ys with
        |nil=>intro _;exact⟨rfl,rfl⟩
        | cons y ys ih2=>
          intro hy
          have h1:=hy y (by simp)
          have h2:=ih2 fun z hz=>hy z (by simp[hz])
          simp only[List.map_cons,Ce,DW,h1.1,h1.2,h2.1,h2.2,and_self]
      obtain⟨c1,c2⟩:=hc xs fun y hy=>⟨(ih y hy).2.2.1,(ih y hy).2.2.2⟩
      have hp:=ADX (ks:=ks) (xs:=xs.map CF) (by simpa using hl) (JD hd)
      have hpk:=D5 ks
      have hlen:=hp.length_eq
      rw[KE]
      refine⟨.mk _ (by simp) (by rw[hpk.length_eq];exact hk) (fun k hkm=>hkl k (hpk.mem_iff.1 hkm)) (by simp only[];rw[hlen];simpa using hi) fun x hm=>?_,?_,?_,?_⟩
      · have hm:=hp.mem_iff.1 hm
        simp only[List.mem_map]at hm
        obtain⟨y,hy,rfl⟩:=hm
        exact(ih y hy).1
      · refine(Shp.obj _ _ (by simp) (by rw[AA6 hpk];exact hd) fun x hm=>?_).b
        have hm:=hp.mem_iff.1 hm
        simp only[List.mem_map]at hm
        obtain⟨y,hy,rfl⟩:=hm
        exact(ih y hy).2.1
      · rw[I4,I4];simp only[ABN hp,c1]
      · rw[JK,JK];simp only[XH hp,c2]
def VL (N:Nat) (v:ApiValue):Bool:=decide (Ha v≤64)&&E9 N v
end
end Go.VM
namespace Go.VM
section
variable{N:Nat}
theorem AFw{v:ApiValue} (ht:v.text.length≤1000000) (hN:2000000≤N):F6 N v=some (if v.kind==4 then PY N v.text else if v.kind==5 then(EN N v.text).isSome else v.text==[]):=by
  unfold F6
  cases h4:v.kind==4
  · cases h5:v.kind==5
    · rfl
    · simp only[Bool.false_eq_true,if_false,if_true]
      rw[OW (by omega) (by omega)];rfl
  · simp only[if_true]
    rw[(ABY (N:=N) v.text (by omega) (by omega)).2,Option.bind_some]
    unfold PY
    cases (Vu N v.text).2==0<;>simp
theorem AJw (hN:2000000≤N): ∀(ks seen:List (List UInt8)),(∀k,k∈ks→k.length≤1000000)→seen.Nodup→I7 N ks seen=some (decide (seen++ks).Nodup&&ks.all fun k=>(EN N k).isSome)
  |[],seen,_,hs=>by rw[I7,List.append_nil,decide_eq_true hs];rfl
  | k::ks,seen,hk,hs=>by
    rw[I7]
    by_cases hin:k∈seen
    · rw[if_pos hin,decide_eq_false]
      · rfl
      · intro h
        rw[List.nodup_append]at h
        exact h.2.2 k hin k (by simp) rfl
    · have hk1:=hk k (by simp)
      rw[if_neg hin,OW (by omega) (by omega),Option.bind_some,List.all_cons]
      cases (EN N k).isSome
      · simp
      · rw[if_pos rfl,AJw hN ks (seen++[k]) (fun y hy=>hk y (by simp[hy])) (by rw[List.nodup_append];exact⟨hs,by simp,fun a ha b hb e=>by simp at hb;subst hb;exact hin (e▸ha)⟩)]
        rw[List.append_assoc];simp
theorem AI9{ks:List (List UInt8)} (hl:ks.length≤1000000) (hN:2000000≤N) (hk: ∀k,k∈ks→k.length≤1000000):Gy N ks=some (Kg N ks):=by
  unfold Gy
  rw[OL (by omega),AJw hN ks [] hk (by simp)];rfl
theorem AGv{α β:Type} (xs:List α) (ys:List β) (h:xs.length≤1000000) (h2:ys.length≤1000000):(wr .i64 ((xs.length:Int)+(ys.length:Int))==0)=(ys.isEmpty&&xs.isEmpty):=by
  rw[Ai (by omega)]
  cases xs<;>cases ys<;>simp<;>omega
theorem QW{d:Nat} (rc:JsonwriteCounter→ApiValue→Int→Option (Bool×JsonwriteCounter)): ∀(xs:List ApiValue) (n:Nat),n+Ce xs≤20000→d≤64→(∀x,x∈xs→ ∀n:Nat,n+Hl x≤20000→Ok (rc ⟨(n:Int)⟩ x ((d+1:Nat):Int)) fun r=>r.1=(decide (d+1+Ha x≤64)&&E9 N x)∧(r.1=true→r.2.nodes=((n+Hl x:Nat):Int)))→(d+1≤64)→
    Ok (BR N (d:Int) rc (fun j17=>some (true,JsonwriteCounter.mk j17)) xs (n:Int)) fun r=>r.1=(decide (d+1+DW xs≤64)&&Jg N xs)∧(r.1=true→r.2.nodes=((n+Ce xs:Nat):Int))
  | [],n,_,_,_,hd=>by
    rw[BR,DW,Jg,Ce]
    exact Ok.ret ⟨by simp;omega,fun _=>rfl⟩
  | x::xs,n,hn,hd,hr,hd1=>by
    rw[Ce]at hn⊢
    rw[BR,show(d:Int)+1=((d+1:Nat):Int) by omega,Ai (by omega),DW,Jg]
    refine(hr x (by simp) n (by omega)).bind fun r h=>?_
    cases e:r.1
    · rw[if_neg (by decide)]
      rw[e]at h
      refine Ok.ret ⟨?_,fun k=>by cases k⟩
      have h1:=h.1.symm
      rw[Bool.and_eq_false_iff]at h1
      rcases h1 with h1|h1
      · rw[decide_eq_false_iff_not]at h1
        rw[decide_eq_false (by omega)];rfl
      · rw[h1];simp
    · rw[if_pos rfl,h.2 e]
      rw[e]at h
      have h1:=h.1.symm
      rw[Bool.and_eq_true,decide_eq_true_eq]at h1
      refine(QW rc xs (n+Hl x) (by omega) hd (fun y hy=>hr y (by simp[hy])) hd1).mono fun r2 h2=>⟨?_,fun k=>?_⟩
      · rw[h2.1,h1.2]
        by_cases hx:d+1+DW xs≤64
        · rw[decide_eq_true hx,decide_eq_true (by omega)];simp
        · rw[decide_eq_false hx,decide_eq_false (by omega)];simp
      · rw[h2.2 k];congr 1;omega
def AGR (N:Nat) (v:ApiValue):Bool:=if v.kind==4 then PY N v.text else if v.kind==5 then(EN N v.text).isSome else v.text==[]
theorem Qp (v:ApiValue):E9 N v=(decide (1≤v.kind∧v.kind≤7)&&AGR N v&&(if v.kind<6 then v.keys.isEmpty&&v.items.isEmpty else if v.kind==6 then v.keys.isEmpty&&Jg N v.items else decide (v.keys.length=v.items.length)&&Kg N v.keys&&Jg N v.items)):=by
  obtain⟨kind,text,keys,items⟩:=v
  rw[E9]
  unfold AGR
  simp only[]
  by_cases h:1≤kind∧kind≤7
  · have:kind=1∨kind=2∨kind=3∨kind=4∨kind=5∨kind=6∨kind=7:=by omega
    rcases this with rfl|rfl|rfl|rfl|rfl|rfl|rfl<;>simp[Bool.and_assoc]
  · rw[decide_eq_false h]
    have e: ∀k:Int,(1≤k∧k≤7)→(kind==k)=false:=fun k hk=>by simp;omega
    rw[e 1 (by omega),e 2 (by omega),e 3 (by omega),e 4 (by omega),e 5 (by omega),e 6 (by omega),e 7 (by omega)]
    simp
theorem TN {B:Nat} (hN':2000000≤N∧B≤10): ∀(D e d n:Nat) (v:ApiValue),okB B e v→e≤D→d≤64→n+Hl v≤20000→
    Ok (BP N D ⟨(n:Int)⟩ v (d:Int)) fun r=>r.1=(decide (d+Ha v≤64)&&E9 N v)∧(r.1=true→r.2.nodes=((n+Hl v:Nat):Int))
  |0,e,d,n,v,h,he,_,_=>by have:=h.pos;omega
  | D + 1, e, d, n, v,h,he,hd,hn=>by
    obtain⟨hN,hB⟩:=id hN'
    obtain⟨e,rfl⟩: ∃k,e=k+1:=⟨e-1,by have:=h.pos;omega⟩
    have hi:=h.items;have ht:=h.text;have hk:=h.keys;have hkl:=h.klen;have hsub:=h.sub
    have hcp:=Nw v
    have hts:F6 N v=some (AGR N v):=AFw (N:=N) (v:=v) (by omega) hN
    have hks:=AI9 (N:=N) (ks:=v.keys) (by omega) hN fun k h=>by have:=hkl k h;omega
    have hcnt:=I4 v
    have hnest:=JK v
    have e1:(n:Int)+1=((n+1:Nat):Int):=by omega
    have no: ∀x:JsonwriteCounter,E9 N v=false∨ ¬d+Ha v≤64→Ok (some (false,x)) fun r:Bool×JsonwriteCounter=>r.1=(decide (d+Ha v≤64)&&E9 N v)∧(r.1=true→r.2.nodes=((n+Hl v:Nat):Int)):=fun x hx=>by
      refine Ok.ret ⟨?_,fun k=>by cases k⟩
      rcases hx with hx|hx
      · rw[hx];simp
      · rw[decide_eq_false hx];rfl
    rw[BP]
    dsimp only
    rw[e1,Ai (by omega)]
    refine Ok.meet (fun j1=>j1=!(decide (1≤v.kind∧v.kind≤7)&&AGR N v)) ?_ ?_
    · rintro _ rfl
      cases hg:(decide (1≤v.kind∧v.kind≤7)&&AGR N v)
      · rw[if_pos (by decide)]
        exact no _ (.inl (by rw[Qp,hg];rfl))
      · have hse := Qp (N:=N) v
        rw[hg,Bool.true_and]at hse
        rw[Bool.and_eq_true,decide_eq_true_eq]at hg
        rw[if_neg (by decide)]
        by_cases hk6:v.kind<6
        · rw [if_pos (by simpa using hk6)]
          rw[if_pos hk6]at hse
          rw[AGv v.items v.keys (by omega) (by omega)]
          have h67:(v.kind==6||v.kind==7)=false:=by
            rw[Bool.or_eq_false_iff];exact⟨by simp;omega,by simp;omega⟩
          rw[h67]at hnest
          cases hb:(v.keys.isEmpty&&v.items.isEmpty)
          · exact no _ (.inl (by rw[hse,hb]))
          · rw[hb]at hse
            rw[Bool.and_eq_true,List.isEmpty_iff,List.isEmpty_iff]at hb
            rw[hb.2]at hnest hcnt
            simp only[DW,Ce,Bool.false_eq_true,if_false]at hnest hcnt
            refine Ok.ret ⟨?_,fun _=>?_⟩
            · rw[hse,hnest,decide_eq_true (by omega)];rfl
            · show((n+1:Nat):Int)=_
              rw[hcnt]
        · rw [if_neg (by simpa using hk6)]
          rw[if_neg hk6]at hse
          have h67:(v.kind==6||v.kind==7)=true:=by
            rw[Bool.or_eq_true]
            by_cases h6:v.kind=6
            · exact .inl (by simp[h6])
            · exact .inr (by simp;omega)
          rw[h67,if_pos rfl]at hnest
          by_cases hd64:64≤d
          · rw[if_pos (by simp only[decide_eq_true_eq];omega)]
            exact no _ (.inr (by omega))
          · rw [if_neg (by simp only[decide_eq_true_eq];omega)]
            have loop:=QW (N:=N) (d:=d) (BP N D) v.items (n+1) (by omega) hd (fun x hx m hm=>TN hN' D e (d+1) m x (hsub x hx) (by omega) (by omega) hm) (by omega)
            have fin:E9 N v=Jg N v.items→Ok (Ab (fun j17:Int=>some (true,JsonwriteCounter.mk j17)) fun k18=>grd (BX v.items.length) (BR N (d:Int) (BP N D) k18 v.items ((n+1:Nat):Int))) fun r=>r.1=(decide (d+Ha v≤64)&&E9 N v)∧(r.1=true→r.2.nodes=((n+Hl v:Nat):Int)):=fun hs=>by
              rw[AZ,OL (by omega)]
              refine loop.mono fun r hr=>⟨?_,fun k=>?_⟩
              · rw[hr.1,hs,hnest,Nat.add_assoc]
              · rw[hr.2 k,hcnt];congr 1;omega
            refine Ok.meet (fun j7=>j7=(v.kind==6&&!v.keys.isEmpty)) ?_ ?_
            · rintro _ rfl
              cases h6:v.kind==6
              · have h7:(v.kind==7)=true:=by simp at h6;simp;omega
                rw[Bool.false_and,if_neg (by decide)]
                rw[h6,if_neg (by decide)]at hse
                refine Ok.meet (fun j11=>j11=!(decide (v.keys.length=v.items.length)&&Kg N v.keys)) ?_ ?_
                · rintro _ rfl
                  cases hg2:(decide (v.keys.length=v.items.length)&&Kg N v.keys)
                  · rw[if_pos (by decide)];exact no _ (.inl (by rw[hse,hg2];rfl))
                  · rw[if_neg (by decide)];exact fin (by rw[hse,hg2];rfl)
                · intro k12 hk12
                  rw[if_pos h7]
                  by_cases hl:v.keys.length=v.items.length
                  · rw[if_neg (by simp[hl]),hks,Option.bind_some]
                    exact hk12 _ (by rw[decide_eq_true hl,Bool.true_and])
                  · rw[if_pos (by simp;omega)]
                    exact hk12 _ (by rw[decide_eq_false hl];rfl)
              · rw [h6,if_pos rfl]at hse
                have h7:(v.kind==7)=false:=by simp at h6;simp;omega
                cases hke:v.keys.isEmpty
                · rw[if_pos (by decide)];exact no _ (.inl (by rw[hse,hke];rfl))
                · rw[if_neg (by decide)]
                  refine Ok.meet (fun j11=>j11=false) ?_ ?_
                  · rintro _ rfl
                    rw[if_neg (by decide)];exact fin (by rw[hse,hke];rfl)
                  · intro k12 hk12
                    rw[h7,if_neg (by decide)]
                    exact hk12 _ rfl
            · intro k8 hk8
              cases h6:v.kind==6
              · rw[if_neg (by decide)];exact hk8 _ (by rw[h6];rfl)
              · rw[if_pos rfl]
                refine hk8 _ ?_
                rw[h6,Bool.true_and]
                cases v.keys<;>simp<;>omega
    · intro k2 hk2
      rw[if_neg (by simp only[decide_eq_true_eq];omega)]
      by_cases h1:v.kind<1
      · rw[if_pos (by simpa using h1)];exact hk2 _ (by rw[decide_eq_false (by omega)];rfl)
      · rw[if_neg (by simpa using h1)]
        by_cases h7:v.kind>7
        · rw[if_pos (by simpa using h7)];exact hk2 _ (by rw[decide_eq_false (by omega)];rfl)
        · rw[if_neg (by simpa using h7),hts,Option.bind_some]
          exact hk2 _ (by rw[decide_eq_true (by omega),Bool.true_and])
theorem TV{B:Nat} (hN':2000000≤N∧B≤10){v:ApiValue} (h:okB B 70 v) (hc:Hl v≤20000):EC N v=some (VL N v):=by
  obtain⟨hN,hB⟩:=id hN'
  unfold EC
  obtain⟨r,h1,h2,_⟩:=TN (N:=N) hN' N 70 0 0 v h (by omega) (by omega) (by omega)
  rw[show(0:Int)=((0:Nat):Int)from rfl,h1,Option.bind_some,h2,Nat.zero_add]
  rfl
end
end Go.VM
