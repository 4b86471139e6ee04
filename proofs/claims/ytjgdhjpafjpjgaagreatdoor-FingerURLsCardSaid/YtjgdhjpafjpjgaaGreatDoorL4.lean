import Derived.Test.YtjgdhjpafjpjgaaGreatDoorL3
set_option linter.unusedVariables false
set_option linter.unusedSimpArgs false
namespace Go.VM
section
variable{N:Nat}
def AUA:List UInt8:=[33,35,36,37,38,39,42,43,45,47,61,63,94,95,96,123,124,125,126]
def Lp (c:UInt8):Bool:=Iw c||(Ep c||AUA.contains c)
theorem AMK (c:UInt8):Ls N (AJ c)=some (Lp c):=by
  unfold Ls Lp
  rw[Qp,Option.bind_some,Ph,Option.bind_some,JR,Option.bind_some,Gq]
  cases Iw c<;>cases Ep c<;>rfl
theorem ALx (c:UInt8):Kh N (AJ c)=some (Lp c):=by
  unfold Kh Lp
  rw[Nn,Option.bind_some,Nt,Option.bind_some,QN c _ (by decide),Option.bind_some]
  cases Iw c<;>cases Ep c<;>rfl
def PD:Bool→List UInt8→Bool
  |dot,[]=>!dot
  |dot,c::t=>if c=46 then !dot&&PD true t else Lp c&&PD false t
theorem b46 (c:UInt8):(AJ c==46)=decide (c=46):=by
  have:=Ba (f:=fun n=>((n:Int)==46)) (g:=fun n=>decide (UInt8.ofNat n=46)) (by kernel_rfl) c
  simp only[UInt8.ofNat_toNat]at this
  exact this
theorem QJ (b:Bool): ∀(l:List UInt8) (dot:Bool),Dp N (fun j1=>if j1=true then some false else some b) l dot=some (PD dot l&&b)
  |[],dot=>by rw[Dp,PD];cases dot<;>simp
  | c::t,dot=>by
    rw[Dp,PD]
    dsimp only[AL]
    rw[AMK,Option.bind_some,bne,b46]
    by_cases hc:c=46
    · rw[decide_eq_true hc,if_neg (by decide),if_pos rfl,if_pos hc,QJ b t]
      cases dot<;>simp
    · rw[decide_eq_false hc,if_pos (by decide),if_neg hc]
      cases ha:Lp c
      · rfl
      · simp only[if_true,Bool.false_eq_true,if_false]
        rw[QJ b t];simp
theorem APz (l:List UInt8) (hb:l.length≤1000000):KU N l=some (PD true l&&decide (l.length≤64)):=by
  unfold KU
  have e:decide ((l.length:Int)≤64)=decide (l.length≤64):=by
    congr 1;simp only[eq_iff_iff];omega
  rw[AL,BP (by omega),QJ,e]
theorem QY: ∀(l:List UInt8) (dot:Bool),PD dot l=(match AP 46 l with|p::ps=>(!(dot&&(p==[])))&&(p.all Lp&&ps.all fun q=>!(q==[])&&q.all Lp)|[]=>false)
  |[],dot=>by cases dot<;>rfl
  | c::t,dot=>by
    rw[PD,AP]
    by_cases hc:c=46
    · rw[if_pos hc,if_pos hc,QY t true]
      cases hs:AP 46 t with
      |nil=>exact absurd hs (Bo 46 t)
      |cons p ps=>cases dot<;>simp[Bool.and_assoc]
    · rw[if_neg hc,if_neg hc,QY t false]
      cases hs:AP 46 t with
      |nil=>exact absurd hs (Bo 46 t)
      |cons p ps=>cases dot<;>simp[Bool.and_assoc]
theorem ARj (k:Unit→Option Bool): ∀l:List UInt8,DL N k l=if l.all Lp=true then k ()else some false
  |[]=>by rw[DL];rfl
  | c::l=>by
    rw[DL,ALx,Option.bind_some,ARj k l]
    cases h:Lp c<;>simp[h]
theorem ARd (k:Unit→Option Bool): ∀ps:List (List UInt8),(∀p,p∈ps→p.length≤1000000)→DR N k ps=if(ps.all fun q=>!(q==[])&&q.all Lp)=true then k ()else some false
  |[],_=>by rw[DR];rfl
  | p::ps,h=>by
    have hp:=h p (by simp)
    rw[DR]
    dsimp only[AL]
    rw[ARj,ARd k ps fun q hq=>h q (by simp[hq]),List.all_cons]
    cases hx:(p==([]:List UInt8))
    · rw[if_neg (by decide),BP (by omega)]
      cases p.all Lp<;>simp
    · rw[if_pos rfl];rfl
theorem AQe (l:List UInt8) (hb:l.length≤1000000):Jo N l=some (PD true l&&decide (l.length≤64)):=by
  have hp:=Ed 46 l
  have hl:=FD 46 l
  unfold Jo
  dsimp only[AL]
  rw[show(46:Int)=AJ 46 from rfl,KO l 46 hb,Option.bind_some,BP (by omega),ARd _ _ fun p h=>by have:=hp p h;omega]
  by_cases h0:l=[]
  · subst h0;rfl
  rw[if_neg (by simpa using h0)]
  have e:decide ((l.length:Int)>64)=!decide (l.length≤64):=by
    by_cases h:l.length≤64
    · rw[decide_eq_true h,decide_eq_false (by omega)];rfl
    · rw[decide_eq_false h,decide_eq_true (by omega)];rfl
  have hs:(AP 46 l).all (fun q=>!(q==[])&&q.all Lp)=PD true l:=by
    rw[QY l true]
    cases hs:AP 46 l with
    |nil=>exact absurd hs (Bo 46 l)
    |cons p ps=>simp[Bool.and_assoc]
  rw[e,hs]
  cases decide (l.length≤64)<;>cases PD true l<;>rfl
def Mk:List UInt8:=[33,36,39,42,43]
def SC:List UInt8:=[37,33,36,39,42,43]
def AGB (c:UInt8):Bool:=Cu c||SC.contains c
def HV:ApiMail:=⟨[],[]⟩
theorem AEH (k:Unit→Option (ApiMail×Int)): ∀l:List UInt8,Dr N k l=if l.all AGB=true then k ()else some (HV,1)
  |[]=>by rw[Dr];rfl
  | c::l=>by
    rw[Dr]
    dsimp only[AL]
    rw[P9,Option.bind_some,JR,Option.bind_some,AEH k l,List.all_cons]
    have e:decide (Go.Lib.indexByte ([37,33,36,39,42,43]:List UInt8) c<0)=!SC.contains c:=by
      rw[←Gq c SC]
      unfold SC
      by_cases h:Go.Lib.indexByte ([37,33,36,39,42,43]:List UInt8) c<0
      · rw[decide_eq_true h,decide_eq_false (by omega)];rfl
      · rw[decide_eq_false h,decide_eq_true (by omega)];rfl
    rw[e]
    unfold AGB
    cases Cu c<;>cases SC.contains c<;>simp[HV]
theorem ACQ{x8:List UInt8} (k:Unit→Option (ApiMail×Int)): ∀(l rest pre:List UInt8),x8=pre++(l++rest)→Cz N x8 k l.length pre.length=if l.all AGB=true then k ()else some (HV,1)
  |[],rest,pre,_=>by rw[List.length_nil,Cz];rfl
  | c::l,rest,pre,h=>by
    rw[List.length_cons,Cz]
    dsimp only[AL]
    have hget:idx x8 (pre.length:Int)=some c:=by rw[Io,h,List.getElem?_append_right (Nat.le_refl _),Nat.sub_self];rfl
    have ih:=ACQ (x8:=x8) k l rest (pre++[c]) (by rw[h];simp)
    rw[List.length_append,List.length_singleton]at ih
    rw[hget,Option.bind_some,Pi,Option.bind_some,QN c _ (by decide),Option.bind_some,show(pre.length:Int)+1=((pre.length+1:Nat):Int) by omega,ih,List.all_cons]
    change (if Cu c=true then _ else if(!SC.contains c)=true then _ else _)=_
    unfold AGB
    cases Cu c<;>cases SC.contains c<;>simp[HV]
def AHh (N:Nat) (l h:List UInt8):ApiMail×Int:=
  if l.all AGB=false then(HV,1)
  else if((Dk N l).2 !=0)=true then(HV,(Dk N l).2)
  else if(PD true (Dk N l).1&&decide ((Dk N l).1.length≤64))=false then(HV,80)
  else if((FH h).2 !=0)=true then(HV,(FH h).2)
  else if S9 (FH h).1=true then(HV,50)
  else(⟨(Dk N l).1,(FH h).1⟩,0)
def Mg (N:Nat) (s:List UInt8):ApiMail×Int:=
  if s.length>4096 then(HV,5)
  else if s.length<7 then(HV,60)
  else if((s.take 7).map Dc==List.map Dc [109,97,105,108,116,111,58])=false then(HV,60)
  else if((AY 64 (s.drop 7)).2.2&&!((s.drop 7).any ([63,35]:List UInt8).contains))=false then(HV,6)
  else AHh N (AY 64 (s.drop 7)).1 (AY 64 (s.drop 7)).2.1
theorem WC: ∀(k:Nat) (t out:List UInt8),(NY k t out).1.length≤out.length+t.length
  |0,t,out=>by simp[NY]
  |k+1,[],out=>by simp[NY]
  | k+1,c::t,out=>by
    rw[NY]
    split
    · cases h:H9 t with
      |none=>simp
      | some x=>
        have h2:=Nk h
        have:=WC k (t.drop 2) (out++[x])
        simp only[List.length_append,List.length_drop,List.length_cons,List.length_nil]at *
        omega
    · have:=WC k t (out++[c])
      simp only[List.length_append,List.length_cons,List.length_nil]at *;omega
theorem FU (s:List UInt8):(Dk N s).1.length≤s.length:=by
  unfold Dk
  split
  · simp
  · have:=WC N s [];simpa using this
theorem ANU{set:List UInt8}: ∀ {l:List UInt8},decide ((((l.takeWhile fun x=>!set.contains x).length:Nat):Int)<(l.length:Int))=l.any set.contains
  |[]=>by simp
  | c::l=>by
    have ih:=ANU (set:=set) (l:=l)
    rw[List.takeWhile_cons,List.any_cons]
    cases h:set.contains c
    · simp only[Bool.not_false,if_true,List.length_cons,Bool.false_or]
      rw[←ih];congr 1;simp only[eq_iff_iff];omega
    · simp
theorem ACq{p:List UInt8} (h:(p.map Dc==List.map Dc [109,97,105,108,116,111,58])=true): ∀x,x∈p→x.toNat<128∧([63,35]:List UInt8).contains x=false:=by
  intro x hx
  have hm:Dc x∈List.map Dc [109,97,105,108,116,111,58]:=by rw[←beq_iff_eq.1 h];exact List.mem_map_of_mem hx
  have key:=Ba (f:=fun n=>(!(List.map Dc [109,97,105,108,116,111,58]).contains (Dc (UInt8.ofNat n)))||(decide (n<128)&&!([63,35]:List UInt8).contains (UInt8.ofNat n))) (g:=fun _=>true) (by kernel_rfl) x
  simp only[UInt8.ofNat_toNat]at key
  rw[show(List.map Dc [109,97,105,108,116,111,58]).contains (Dc x)=true by simpa using hm]at key
  simp only[Bool.not_true,Bool.false_or,Bool.and_eq_true,decide_eq_true_eq]at key
  exact⟨key.1,by simpa using key.2⟩
theorem AN5{s:List UInt8} (h:((s.take 7).map Dc==List.map Dc [109,97,105,108,116,111,58])=true):s.any ([63,35]:List UInt8).contains=(s.drop 7).any ([63,35]:List UInt8).contains:=by
  conv=>lhs;rw[←List.take_append_drop 7 s]
  rw[List.any_append]
  have:(s.take 7).any ([63,35]:List UInt8).contains=false:=by
    rw[List.any_eq_false]
    intro x hx
    rw[(ACq h x hx).2];decide
  rw[this,Bool.false_or]
theorem AOl (s:List UInt8) (hb:s.length≤1000000) (hN:20000≤N):Kl N s=some (Mg N s):=by
  unfold Kl Mg
  by_cases h1:s.length>4096
  · rw[if_pos (by simp;omega),if_pos h1];rfl
  rw[if_neg (by simp;omega),if_neg h1]
  dsimp only[AL]
  by_cases h2:s.length<7
  · rw[if_pos (by simp;omega),if_pos h2,if_pos rfl];rfl
  have hl:=Es 64 (s.drop 7)
  rw[List.length_drop]at hl
  rw[if_neg (by simp;omega),if_neg h2,show sub s 0 7=some (s.take 7)from(CR s 0 7 (by omega) (by omega)).trans (by simp),Option.bind_some,Qj _ _ (by rw[List.length_take];omega) (by decide),Option.bind_some,show sub s 7 (s.length:Int)=some (s.drop 7)from BZ (n:=7) (by omega),Option.bind_some,MI 64 _ (by rw[List.length_drop];omega),Option.bind_some]
  cases hp:(List.map Dc (s.take 7)==List.map Dc [109,97,105,108,116,111,58])
  · simp only[Bool.not_false,if_true];rfl
  simp only[Bool.not_true,Bool.false_eq_true,if_false]
  rw[if_neg (by decide: ¬(true=false)),N7]
  cases hc:(s.drop 7).contains 64
  · simp only[Bool.false_eq_true,if_false,if_true,Bool.false_and];rfl
  simp only[if_true,Bool.true_and]
  rw [AFm (by decide) (by decide) (by decide) (by
    intro h8 c hcm
    have hcs:c∈s:=(List.takeWhile_sublist _).subset hcm
    rw[←List.take_append_drop 7 s,List.mem_append]at hcs
    rcases hcs with hcs|hcs
    · exact(ACq hp c hcs).1
    · have hd:(s.drop 7).length≤1:=by rw[List.length_drop];omega
      match hq:s.drop 7,hd,hc,hcs with
      | [x],_,hc,hcs=>
        simp only[List.contains_cons,List.contains_nil,Bool.or_false]at hc
        have:c=x:=by simpa using hcs
        have h64:x=64:=(beq_iff_eq.1 hc).symm
        rw[this,h64];decide) (by omega) (by omega),Option.bind_some,AN5 hp]
  cases (s.drop 7).any ([63,35]:List UInt8).contains
  rotate_left
  · rfl
  simp only[Bool.false_eq_true,if_false,Bool.not_false]
  rw[if_neg (by decide: ¬(true=false)),BP (by omega),AEH]
  unfold AHh
  cases (AY 64 (s.drop 7)).1.all AGB
  · rfl
  simp only[if_true]
  rw[if_neg (by decide: ¬(true=false)),Km _ hN,Option.bind_some]
  have hdl:=FU (N:=N) (AY 64 (s.drop 7)).1
  generalize Dk N (AY 64 (s.drop 7)).1=D at *
  by_cases h5:(D.2 !=0)=true
  · rw[if_pos h5,if_pos h5];rfl
  rw[if_neg h5,if_neg h5,APz _ (by omega),Option.bind_some]
  cases (PD true D.1&&decide (D.1.length≤64))
  · rfl
  simp only[if_true]
  rw[if_neg (by decide: ¬(true=false)),Sm _ (by omega),Option.bind_some]
  have hh:=Lm (AY 64 (s.drop 7)).2.1
  generalize FH (AY 64 (s.drop 7)).2.1=H at *
  by_cases h6:(H.2 !=0)=true
  · rw[if_pos h6,if_pos h6];rfl
  rw[if_neg h6,if_neg h6,AHk _ (by omega),Option.bind_some]
  cases S9 H.1<;>rfl
theorem AL7 (s:List UInt8) (hb:s.length≤1000000) (hN:20000≤N):Jf N s=some (Mg N s):=by
  unfold Jf Mg
  by_cases h1:s.length>4096
  · rw[if_pos (by simp;omega),if_pos h1];rfl
  rw[if_neg (by simp;omega),if_neg h1]
  dsimp only[AL]
  by_cases h2:s.length<7
  · rw[if_pos (by simp;omega),if_pos h2,if_pos rfl];rfl
  have hl:=Es 64 (s.drop 7)
  have hdl:(s.drop 7).length≤1000000:=by rw[List.length_drop];omega
  rw[List.length_drop]at hl
  rw[if_neg (by simp;omega),if_neg h2,show sub s 0 7=some (s.take 7)from(CR s 0 7 (by omega) (by omega)).trans (by simp),Option.bind_some,Qk _ _ (by rw[List.length_take];omega) (by decide),Option.bind_some,show sub s 7 (s.length:Int)=some (s.drop 7)from BZ (n:=7) (by omega),Option.bind_some,APK 64 _ hdl,Option.bind_some,Pw,N7]
  cases hp:(List.map Dc (s.take 7)==List.map Dc [109,97,105,108,116,111,58])
  · simp only[Bool.not_false,if_true];rfl
  simp only[Bool.not_true,Bool.false_eq_true,if_false]
  rw[if_neg (by decide: ¬(true=false))]
  cases hc:(s.drop 7).contains 64
  · simp only[Bool.not_false,if_true,Bool.false_and];rfl
  simp only[Bool.not_true,Bool.false_eq_true,if_false,Bool.true_and]
  rw[IR _ [63,35] (by decide) (by omega),Option.bind_some,ANU]
  cases (s.drop 7).any ([63,35]:List UInt8).contains
  rotate_left
  · rfl
  simp only[Bool.false_eq_true,if_false,Bool.not_false]
  obtain⟨s1,s2⟩:=PV hc hdl
  have hlt:=Ih hc
  have hcut:(AY 64 (s.drop 7)).1=(s.drop 7).takeWhile (· !=64):=by rw[ED hc]
  have hpre:s.drop 7=[]++((AY 64 (s.drop 7)).1++(s.drop 7).dropWhile (· !=64)):=by rw[hcut,List.nil_append,List.takeWhile_append_dropWhile]
  have hloop:=fun k=>ACQ (N:=N) (x8:=s.drop 7) k (AY 64 (s.drop 7)).1 _ [] hpre
  rw[if_neg (by decide: ¬(true=false)),AZ (by omega),Int.sub_zero,Int.toNat_natCast,←hcut]
  refine(hloop _).trans ?_
  rw[←hcut]at s1 s2
  unfold AHh
  cases (AY 64 (s.drop 7)).1.all AGB
  · rfl
  simp only[if_true]
  rw[if_neg (by decide: ¬(true=false)),s1,Option.bind_some,JF _ hN,Option.bind_some]
  have hdl:=FU (N:=N) (AY 64 (s.drop 7)).1
  generalize Dk N (AY 64 (s.drop 7)).1=D at *
  by_cases h5:(D.2 !=0)=true
  · rw[if_pos h5,if_pos h5];rfl
  rw[if_neg h5,if_neg h5,AQe _ (by omega),Option.bind_some]
  cases (PD true D.1&&decide (D.1.length≤64))
  · rfl
  simp only[if_true]
  rw[if_neg (by decide: ¬(true=false)),s2,Option.bind_some,R6,Option.bind_some]
  have hh:=Lm (AY 64 (s.drop 7)).2.1
  generalize FH (AY 64 (s.drop 7)).2.1=H at *
  by_cases h6:(H.2 !=0)=true
  · rw[if_pos h6,if_pos h6];rfl
  rw[if_neg h6,if_neg h6,AHT _ (by omega),Option.bind_some]
  cases S9 H.1<;>rfl
def VN (m:ApiMail):List UInt8:=(([109,97,105,108,116,111,58]++m.local_.flatMap (Gm Mk))++[64])++m.host
theorem KH (keep:List UInt8): ∀l:List UInt8,(l.flatMap (Gm keep)).length≤3 * l.length
  |[]=>by simp
  | c::l=>by
    have:=KH keep l
    have:=Sb keep c
    rw[List.flatMap_cons,List.length_append,List.length_cons];omega
theorem AJ0 (m:ApiMail) (h:m.local_.length≤100000∧m.host.length≤100000):Jq N m=some (VN m):=by
  have:=KH Mk m.local_
  unfold Jq VN
  rw[MQ _ _ (by omega),Option.bind_some]
  change grd (AX (_+(m.local_.flatMap (Gm Mk)).length)) (grd _ (grd _ (some ((([109,97,105,108,116,111,58]++m.local_.flatMap (Gm Mk))++[64])++m.host))))=_
  rw[BP (by simp only[List.length_cons,List.length_nil];omega),BP (by simp only[List.length_append,List.length_cons,List.length_nil];change _+(m.local_.flatMap (Gm Mk)).length+_≤_;omega),BP (by simp only[List.length_append,List.length_cons,List.length_nil];change _+(m.local_.flatMap (Gm Mk)).length+_+_≤_;omega)]
theorem AIk (m:ApiMail) (h:m.local_.length≤100000∧m.host.length≤100000):I4 N m=some (VN m):=by
  have:=KH Mk m.local_
  unfold I4 VN
  rw[Oi _ _ (by decide) (by omega),Option.bind_some]
  change grd (AX (_+(m.local_.flatMap (Gm Mk)).length)) (grd _ (grd _ (some ((([109,97,105,108,116,111,58]++m.local_.flatMap (Gm Mk))++[64])++m.host))))=_
  rw[BP (by simp only[List.length_cons,List.length_nil];omega),BP (by simp only[List.length_append,List.length_cons,List.length_nil];change _+(m.local_.flatMap (Gm Mk)).length+_≤_;omega),BP (by simp only[List.length_append,List.length_cons,List.length_nil];change _+(m.local_.flatMap (Gm Mk)).length+_+_≤_;omega)]
theorem Qf (s:List UInt8):(Mg N s).1.local_.length≤4096∧(Mg N s).1.host.length≤253:=by
  have hh:=Lm (AY 64 (s.drop 7)).2.1
  have hn:=FU (N:=N) (AY 64 (s.drop 7)).1
  have hl:=Es 64 (s.drop 7)
  rw[List.length_drop]at hl
  unfold Mg AHh
  split
  · simp[HV]
  split
  · simp[HV]
  split
  · simp[HV]
  split
  · simp[HV]
  split
  · simp[HV]
  split
  · simp[HV]
  split
  · simp[HV]
  split
  · simp[HV]
  split
  · simp[HV]
  · dsimp only;omega
end
end Go.VM
namespace Go.VM
section
variable{N:Nat}
theorem R3 (d:Bool) (b s:List UInt8) (h:b.length+s.length≤1000000000):Ac N ⟨d,b⟩ s=some ((s.length:Int),(),⟨true,b++s⟩):=by
  unfold Ac EB
  cases d<;>simp only[Bool.false_eq_true,if_false,if_true,Option.bind_some]<;>rw[AZ (JI (by omega))]
def RY (r:List UInt8) (x c:UInt8):List UInt8:=if c=x then r else [c]
theorem Tc{r:List UInt8}{x:UInt8}: ∀ {l:List UInt8},l.contains x=false→l.flatMap (RY r x)=l
  |[],_=>rfl
  | c::l,h=>by
    rw[List.contains_cons,Bool.or_eq_false_iff]at h
    have hc: ¬c=x:=by rintro rfl;simp at h
    rw[List.flatMap_cons,Tc h.2,RY,if_neg hc];rfl
theorem APX{r:List UInt8}{x:UInt8}{l:List UInt8} (h:l.contains x=true):l.flatMap (RY r x)=(AY x l).1++(r++(AY x l).2.1.flatMap (RY r x)):=by
  induction l with
  |nil=>simp at h
  | cons c t ih=>
    by_cases hc:c=x
    · subst hc
      rw[ED h,List.flatMap_cons,RY,if_pos rfl];simp
    · have e1:(x==c)=false:=by simpa using fun e:x=c=>hc e.symm
      have e2:(c !=x)=true:=by simpa using hc
      have ht:t.contains x=true:=by rw[List.contains_cons,e1,Bool.false_or]at h;exact h
      have hi:=ih ht
      rw[ED h,List.takeWhile_cons,e2,List.dropWhile_cons,e2,List.flatMap_cons,hi,RY,if_neg hc]
      rw[ED ht];simp
theorem AEl{l r:List UInt8}{x:UInt8} (hb:l.length≤1000000) (hr:r.length≤3) (k18:Int×Bool×List UInt8→Option (List UInt8)): ∀(k:Nat) (t pre buf:List UInt8) (d:Bool),l=pre++t→t.count x=k→buf.length+3 * t.length≤100000000→
    ∃last pre' buf' d',l=pre'++last∧buf'++last=buf++t.flatMap (RY r x)∧buf'.length≤100000000∧Bg N l [x] r k18 k pre.length d buf=k18 ((pre'.length:Int),d',buf')
  | 0,t,pre,buf,d,h,hk,ho=>by
    have h0:=Lb.1 hk
    exact⟨t,pre,buf,d,h,by rw[Tc h0],by omega,by rw[Bg]⟩
  | k+1,t,pre,buf,d,h,hk,ho=>by
    have hl:=congrArg List.length h
    simp only[List.length_append]at hl
    have h1:t.contains x=true:=by
      cases h':t.contains x
      · have:=Lb.2 h';omega
      · rfl
    have hlt:=Ih h1
    have hcnt:t.count x=(AY x t).2.1.count x+1:=by rw[ED h1];exact Qt h1
    have hc:=Es x t
    have he:t=(AY x t).1++(x::(AY x t).2.1):=by
      rw[ED h1]
      have e:=List.takeWhile_append_dropWhile (p:=(· !=x)) (l:=t)
      have hd:t.dropWhile (· !=x)=x::(t.dropWhile (· !=x)).drop 1:=by
        cases hq:t.dropWhile (· !=x)with
        |nil=>rw[hq,List.append_nil]at e;rw[e]at hlt;omega
        | cons y ys=>
          have:=List.head?_dropWhile_not (fun z=>z !=x) t
          rw[hq]at this
          simp at this
          simp[this]
      conv=>lhs;rw[←e,hd]
    have hlen:(AY x t).1.length+1+(AY x t).2.1.length=t.length:=by
      have:=congrArg List.length he
      simp only[List.length_append,List.length_cons]at this;omega
    have hi:(Go.Lib.indexByte t x)=((AY x t).1.length:Int):=by rw[Ij,if_pos h1,ED h1]
    have hlp:l=(pre++(AY x t).1++[x])++(AY x t).2.1:=by
      rw[h]
      conv=>lhs;rw[he]
      simp
    obtain⟨last,pre',buf',d',q1,q2,q3,q4⟩:=AEl (x:=x) hb hr k18 k (AY x t).2.1 (pre++(AY x t).1++[x]) (buf++(AY x t).1++r) true hlp (by omega) (by simp only[List.length_append];omega)
    refine⟨last,pre',buf',d',q1,?_,q3,?_⟩
    · rw[q2,APX h1];simp
    · have hdl:l.drop pre.length=t:=by rw[h,List.drop_left]
      rw[Bg,BZ (by omega),Option.bind_some,hdl,V6,Option.bind_some,hi]
      have w1:wr .i64 ((pre.length:Int)+((AY x t).1.length:Int))=((pre.length+(AY x t).1.length:Nat):Int):=by rw[BF (by omega)];omega
      have w2:wr .i64 (((pre.length+(AY x t).1.length:Nat):Int)+(([x]:List UInt8).length:Int))=((pre.length+(AY x t).1.length+1:Nat):Int):=by rw[BF (by simp;omega)];simp
      have hseg:(l.drop pre.length).take (pre.length+(AY x t).1.length-pre.length)=(AY x t).1:=by
        rw[hdl,Nat.add_sub_cancel_left,ED h1]
        exact JK ..
      rw[w1,w2,CR l _ _ (by omega) (by omega),Option.bind_some,hseg,R3 _ _ _ (by omega),Option.bind_some]
      dsimp only
      rw[R3 _ _ _ (by simp only[List.length_append];omega),Option.bind_some]
      dsimp only
      have e9:pre.length+(AY x t).1.length+1=(pre++(AY x t).1++[x]).length:=by simp only[List.length_append,List.length_cons,List.length_nil]
      rw[e9]
      exact q4
theorem K8 (l:List UInt8) (x:UInt8) (r:List UInt8) (hr:r.length=3) (hb:l.length≤1000000):strings_ReplaceAll N l [x] r=some (l.flatMap (RY r x)):=by
  have hcl:l.count x≤l.length:=List.count_le_length
  have hcnt:strings_Count N l [x]=some ((l.count x:Nat):Int):=by
    unfold strings_Count
    rw[if_neg (by exact Bool.false_ne_true),if_pos (by rfl),show idx [x] 0=some x from rfl,Option.bind_some,IM]
    rfl
  have hne: ¬(([x]:List UInt8)==r)=true:=by
    intro h
    have:=beq_iff_eq.1 h
    rw[←this]at hr;simp at hr
  unfold strings_ReplaceAll strings_Replace
  dsimp only[AL]
  rw[if_neg hne,if_neg (by decide),hcnt,Option.bind_some]
  by_cases h0:l.count x=0
  · rw[if_pos (by rw[h0];rfl),Option.bind_some,Tc (Lb.1 h0)]
  rw[if_neg (by simpa using h0),if_pos (by decide),if_pos rfl]
  have wg:wr .i64 ((l.length:Int)+(wr .i64 (((l.count x:Nat):Int) * (wr .i64 ((r.length:Int)-(([x]:List UInt8).length:Int))))))=((l.length+l.count x * 2:Nat):Int):=by
    rw[hr,show wr .i64 (((3:Nat):Int)-(([x]:List UInt8).length:Int))=2 from rfl,BF (n:=((l.count x:Nat):Int) * 2) (by omega),BF (by omega)];simp
  rw[wg]
  unfold Ey
  rw[AZ (by omega),Option.bind_some,if_pos (by simp),AZ (by omega),Int.sub_zero,Int.toNat_natCast]
  obtain⟨last,pre',buf',d',q1,q2,q3,q4⟩:=AEl (N:=N) (l:=l) (r:=r) (x:=x) hb (by omega) (fun j17:Int×Bool×(List UInt8)=>
     Option.bind (sub l j17.1 (l.length:Int)) fun x41=>
     Option.bind (Ac N (StringsBuilder.mk j17.2.1 j17.2.2) x41) fun y42=>
     Option.bind (CK N y42.2.2) fun y44=>
     some (y44.1)) (l.count x) l [] [] true rfl rfl (by simp;omega)
  have hl:=congrArg List.length q1
  simp only[List.length_append]at hl
  rw[show(([]:List UInt8).length:Int)=0 from rfl]at q4
  rw[q4,BZ (by omega),Option.bind_some,show l.drop pre'.length=last by rw[q1,List.drop_left],R3 _ _ _ (by dsimp only;omega),Option.bind_some]
  unfold CK
  simp only[Option.bind_some]
  rw[q2];rfl
end
end Go.VM
namespace Go.VM
section
variable{N:Nat}
def un:Nat→List UInt8→Option (List (Bool×UInt8))
  |0,_=>none
  |_+1,[]=>some []
  |k+1,c::t=>if c=37 then(match H9 t with|some x=>(un k (t.drop 2)).map ((true,x):: ·)|none=>none)else(un k t).map ((false,c):: ·)
theorem Vo: ∀(k k':Nat) (t:List UInt8),t.length<k→t.length<k'→un k t=un k' t
  |0,_,_,h,_=>by omega
  |_,0,_,_,h=>by omega
  |k+1,k'+1,[],_,_=>rfl
  | k+1,k'+1,c::t,h,h'=>by
    simp only[List.length_cons]at h h'
    rw[un,un]
    split
    · cases he:H9 t with
      |none=>rfl
      |some x=>simp only;rw[Vo k k' (t.drop 2) (by rw[List.length_drop];omega) (by rw[List.length_drop];omega)]
    · rw[Vo k k' t (by omega) (by omega)]
def unS (t:List UInt8):Option (List (Bool×UInt8)):=un (t.length+1) t
theorem AFc{k:Nat}{t:List UInt8} (h:t.length<k):un k t=unS t:=Vo k _ t h (Nat.lt_succ_self _)
theorem Qn: ∀(k:Nat) (t out:List UInt8),t.length<k→NY k t out=(match un k t with|some us=>(out++us.map (·.2),0)|none=>([],2))
  |0,_,_,h=>by omega
  |k+1,[],out,_=>by simp[NY,un]
  | k+1,c::t,out,h=>by
    simp only[List.length_cons]at h
    rw[NY,un]
    split
    · cases he:H9 t with
      |none=>rfl
      | some x=>
        simp only
        rw[Qn k (t.drop 2) (out++[x]) (by rw[List.length_drop];omega)]
        cases un k (t.drop 2)<;>simp
    · rw[Qn k t (out++[c]) (by omega)]
      cases un k t<;>simp
def nuC (u:Bool×UInt8):List UInt8:=if u.1=true then(if Cu u.2=true then [u.2]else Ho u.2)else [u.2]
def okN (also:List UInt8) (u:Bool×UInt8):Bool:=u.1||(Cu u.2||also.contains u.2)
theorem XB (also:List UInt8): ∀(k:Nat) (t out:List UInt8) (us:List (Bool×UInt8)),t.length<k→un k t=some us→M0 also k t out=if us.all (okN also)=true then(out++us.flatMap nuC,0)else([],1)
  |0,_,_,_,h,_=>by omega
  | k+1,[],out,us,_,hu=>by
    rw[un]at hu;cases hu;simp[M0]
  | k+1,c::t,out,us,h,hu=>by
    simp only[List.length_cons]at h
    rw[un]at hu
    rw[M0]
    split at hu
    · rename_i hc
      rw[if_pos hc]
      cases he:H9 t with
      |none=>rw[he]at hu;cases hu
      | some x=>
        rw[he]at hu
        simp only[Option.map_eq_some_iff]at hu
        obtain⟨vs,hv,rfl⟩:=hu
        simp only
        rw[XB also k (t.drop 2) _ vs (by rw[List.length_drop];omega) hv,List.all_cons,show okN also (true,x)=true from rfl,Bool.true_and,List.flatMap_cons,←List.append_assoc]
        rfl
    · rename_i hc
      rw[if_neg hc]
      simp only[Option.map_eq_some_iff]at hu
      obtain⟨vs,hv,rfl⟩:=hu
      have ih:=XB also k t (out++[c]) vs (by omega) hv
      cases hx:(Cu c||also.contains c)
      · rw[if_neg (by decide),List.all_cons,show okN also (false,c)=false from hx,Bool.false_and,if_neg (by decide)]
      · rw[if_pos rfl,ih,List.all_cons,show okN also (false,c)=true from hx,Bool.true_and,List.flatMap_cons,←List.append_assoc];rfl
theorem ARk:KI 58=false:=by decide
theorem AOZ{p r:List UInt8} (h58: ∀x,x∈p→x≠58):H9 (p++58::r)=H9 p∧(H9 p≠none→2≤p.length):=by
  match p with
  | []=>
    refine⟨?_,fun h=>absurd rfl h⟩
    cases r with
    |nil=>rfl
    |cons y r=>simp[H9,ARk]
  |[a]=>exact⟨by simp[H9,ARk],fun h=>absurd rfl h⟩
  |a::b::q=>exact⟨rfl,fun _=>by simp⟩
theorem TE: ∀(k:Nat) (p r:List UInt8),(p++58::r).length<k→(∀x,x∈p→x≠58)→un k (p++58::r)=(unS p).bind fun u=>(unS r).map fun v=>u++(false,58)::v
  |0,_,_,h,_=>by omega
  | k+1,[],r,h,_=>by
    simp only[List.nil_append,List.length_cons]at h
    rw[List.nil_append,un,if_neg (by decide),AFc (by omega)]
    have:unS []=some []:=rfl
    rw[this];rfl
  | k+1,c::p,r,h,h58=>by
    simp only[List.cons_append,List.length_cons,List.length_append]at h
    have hp58: ∀x,x∈p→x≠58:=fun x hx=>h58 x (by simp[hx])
    rw[List.cons_append,un]
    have hunS:unS (c::p)=if c=37 then(match H9 p with|some x=>(un (p.length+1) (p.drop 2)).map ((true,x):: ·)|none=>none)else(un (p.length+1) p).map ((false,c):: ·):=rfl
    rw[hunS]
    obtain⟨e1,e2⟩:=AOZ (r:=r) hp58
    split
    · rw[e1]
      cases he:H9 p with
      |none=>rfl
      | some x=>
        have h2:2≤p.length:=e2 (by rw[he];simp)
        simp only
        rw[List.drop_append_of_le_length h2,TE k (p.drop 2) r (by simp only[List.length_append,List.length_drop,List.length_cons];omega) (fun y hy=>hp58 y (List.mem_of_mem_drop hy)),AFc (t:=p.drop 2) (by rw[List.length_drop];omega)]
        cases unS (p.drop 2)with
        |none=>rfl
        |some u=>cases unS r<;>rfl
    · rw[TE k p r (by simp only[List.length_append,List.length_cons];omega) hp58,AFc (t:=p) (by omega)]
      cases unS p with
      |none=>rfl
      |some u=>cases unS r<;>rfl
theorem YN (x:UInt8) (hx:KI x=false) (h37:x≠37): ∀(k:Nat) (t:List UInt8) (us:List (Bool×UInt8)),un k t=some us→t.contains x=us.any fun u=>!u.1&&u.2==x
  |0,_,_,h=>by cases h
  |k+1,[],us,h=>by rw[un]at h;cases h;rfl
  | k+1,c::t,us,h=>by
    rw[un]at h
    split at h
    · rename_i hc
      match t,h with
      |[],h=>cases h
      |[_],h=>cases h
      | a::b::r,h=>
        simp only[H9]at h
        by_cases hh:(KI a&&KI b)=true
        · rw[if_pos hh]at h
          simp only[Option.map_eq_some_iff]at h
          obtain⟨vs,hv,rfl⟩:=h
          have ih:=YN x hx h37 k r vs hv
          rw[Bool.and_eq_true]at hh
          have ha:(x==a)=false:=by simp only[beq_eq_false_iff_ne,ne_eq];rintro rfl;rw[hx]at hh;cases hh.1
          have hb:(x==b)=false:=by simp only[beq_eq_false_iff_ne,ne_eq];rintro rfl;rw[hx]at hh;cases hh.2
          have hcc:(x==c)=false:=by simp only[beq_eq_false_iff_ne,ne_eq];rintro rfl;exact h37 hc
          rw[List.contains_cons,List.contains_cons,List.contains_cons,ha,hb,hcc,ih];simp
        · rw[if_neg hh]at h;cases h
    · simp only[Option.map_eq_some_iff]at h
      obtain⟨vs,hv,rfl⟩:=h
      rw[List.contains_cons,YN x hx h37 k t vs hv,List.any_cons]
      congr 1
      simp only[Bool.not_false,Bool.true_and]
      exact Bool.beq_comm
theorem AHH (f:UInt8→Bool) (hf: ∀c,KI c=true→f c=true) (h37:f 37=true): ∀(k:Nat) (t:List UInt8) (us:List (Bool×UInt8)),un k t=some us→t.all f=us.all fun u=>u.1||f u.2
  |0,_,_,h=>by cases h
  |k+1,[],us,h=>by rw[un]at h;cases h;rfl
  | k+1,c::t,us,h=>by
    rw[un]at h
    split at h
    · rename_i hc
      match t,h with
      |[],h=>cases h
      |[_],h=>cases h
      | a::b::r,h=>
        simp only[H9]at h
        by_cases hh:(KI a&&KI b)=true
        · rw[if_pos hh]at h
          simp only[Option.map_eq_some_iff]at h
          obtain⟨vs,hv,rfl⟩:=h
          have ih:=AHH f hf h37 k r vs hv
          rw[Bool.and_eq_true]at hh
          rw[List.all_cons,List.all_cons,List.all_cons,hf a hh.1,hf b hh.2,hc,h37,ih];simp
        · rw[if_neg hh]at h;cases h
    · simp only[Option.map_eq_some_iff]at h
      obtain⟨vs,hv,rfl⟩:=h
      rw[List.all_cons,AHH f hf h37 k t vs hv,List.all_cons];simp
end
end Go.VM
namespace Go.VM
section
variable{N:Nat}
def Da (c:UInt8):Bool:=Iw c||(Ep c||([46,45,95]:List UInt8).contains c)
theorem U8 (c:UInt8):IP N (AJ c)=some (Da c):=by
  unfold IP Da
  rw[Nn,Option.bind_some,Nt,Option.bind_some,QN c _ (by decide),Option.bind_some]
  cases Iw c<;>cases Ep c<;>rfl
theorem O7 (c:UInt8):(Cu c=(Da c||c==126))∧(Da c=true→c≠37∧c≠58∧c≠126)∧(KI c=true→Da c=true):=by
  have key:=Ba (f:=fun n=>(Cu (UInt8.ofNat n)==(Da (UInt8.ofNat n)||UInt8.ofNat n==126))&&((!Da (UInt8.ofNat n))||(decide (UInt8.ofNat n≠37)&&decide (UInt8.ofNat n≠58)&&decide (UInt8.ofNat n≠126)))&&((!KI (UInt8.ofNat n))||Da (UInt8.ofNat n))) (g:=fun _=>true) (by kernel_rfl) c
  simp only[UInt8.ofNat_toNat,Bool.and_eq_true,Bool.or_eq_true,Bool.not_eq_true',beq_iff_eq,decide_eq_true_eq]at key
  obtain⟨⟨k1,k2⟩,k3⟩:=key
  refine⟨k1,fun h=>?_,fun h=>?_⟩
  · rcases k2 with k|⟨⟨a,b⟩,d⟩
    · rw[h]at k;cases k
    · exact⟨a,b,d⟩
  · rcases k3 with k|k
    · rw[h]at k;cases k
    · exact k
def Em (b:UInt8):List UInt8:=if Da b=true then [b]else Ho b
theorem I7 (b:UInt8):(Em b).length≤3∧1≤(Em b).length:=by unfold Em;split<;>simp[Ho]
def AEX:UInt8→List UInt8:=RY [37,55,69] 126
theorem ALZ (b:UInt8):(Ho b).flatMap AEX=Ho b:=by
  have key:=Ba (f:=fun n=>decide (([37,Ms (n / 16),Ms (n % 16)]:List UInt8).flatMap AEX=[37,Ms (n / 16),Ms (n % 16)])) (g:=fun _=>true) (by kernel_rfl) b
  simp only[decide_eq_true_eq]at key
  exact key
theorem AHy (b:UInt8):(if Cu b=true then [b]else Ho b).flatMap AEX=Em b:=by
  obtain⟨k1,k2,_⟩:=O7 b
  unfold Em
  rw[k1]
  cases hp:Da b
  · by_cases h:b=126
    · subst h;rfl
    · rw[show(b==126)=false by simpa using h,Bool.or_false,if_neg (by decide),ALZ]
  · obtain⟨_,_,h3⟩:=k2 hp
    rw[Bool.true_or,if_pos rfl]
    simp[AEX,RY,h3]
theorem ANT (b:UInt8):(Gm [] b).flatMap AEX=Em b:=by
  rw[←AHy b]
  unfold Gm
  simp
def guC (u:Bool×UInt8):List UInt8:=if u.1=true then Em u.2 else [u.2]
def okD (u:Bool×UInt8):Bool:=u.1||(Da u.2||u.2==58)
theorem ASO{u:Bool×UInt8} (h:okD u=true):(nuC u).flatMap AEX=guC u:=by
  obtain⟨e,c⟩:=u
  unfold nuC guC
  cases e
  · simp only[Bool.false_eq_true,if_false]
    have hc:c≠126:=by
      rintro rfl
      simp only[okD,Bool.false_or]at h
      exact absurd h (by decide)
    simp[AEX,RY,hc]
  · simp only[if_true];exact AHy c
theorem TAq{us:List (Bool×UInt8)} (h:us.all okD=true):(us.flatMap nuC).flatMap AEX=us.flatMap guC:=by
  induction us with
  |nil=>rfl
  | cons u us ih=>
    rw[List.all_cons,Bool.and_eq_true]at h
    rw[List.flatMap_cons,List.flatMap_append,ASO h.1,ih h.2,List.flatMap_cons]
def Kg (s:List UInt8):List UInt8×Int:=
  match unS s with
  |none=>([],2)
  |some us=>if us.all okD=true then(us.flatMap guC,0)else([],1)
theorem ATl (us:List (Bool×UInt8)):(us.all (okN [58])&&!(us.any fun u=>!u.1&&u.2==126))=us.all okD:=by
  induction us with
  |nil=>rfl
  | cons u us ih=>
    rw[List.all_cons,List.any_cons,List.all_cons,←ih]
    obtain⟨e,c⟩:=u
    obtain⟨k1,k2,_⟩:=O7 c
    have hu:(okN [58] (e,c)&&!(!e&&c==126))=okD (e,c):=by
      unfold okN okD
      cases e
      · simp only[Bool.false_or,Bool.not_false,Bool.true_and]
        rw[k1,show([58]:List UInt8).contains c=(c==58) by simp[List.contains_cons];rfl]
        by_cases h126:c=126
        · subst h126;rfl
        · rw[show(c==126)=false by simpa using h126];simp
      · simp
    rw[←hu]
    cases okN [58] (e,c)<;>cases (!e&&c==126)<;>cases us.all (okN [58])<;>cases (us.any fun u=>!u.1&&u.2==126)<;>rfl
theorem APU (s:List UInt8) (hb:s.length≤16000) (hN:20000≤N): ∃v,Hg N s=some (v,(Kg s).2)∧((Kg s).2=0→v=(Kg s).1):=by
  unfold Hg
  have hd:Dk N s=NY N s []:=by unfold Dk;rw[if_neg (by omega)]
  have hn:CP N s [58]=M0 [58] N s []:=by unfold CP;rw[if_neg (by omega)]
  have hun:un N s=unS s:=AFc (by omega)
  rw[Hu _ _ hN,Option.bind_some,Km _ hN,Option.bind_some,hd,hn,Qn N s [] (by omega),hun]
  dsimp only[AL]
  unfold Kg
  cases hu:unS s with
  |none=>exact⟨[],rfl,fun _=>rfl⟩
  | some us=>
    simp only
    rw[if_neg (by decide),XB [58] N s [] us (by omega) (by rw[hun];exact hu),ABl,Option.bind_some]
    have h126:s.contains 126=us.any fun u=>!u.1&&u.2==126:=YN 126 (by decide) (by decide) _ s us hu
    have hk:=ATl us
    rw[←h126]at hk
    have hlen:=Gp (N:=N) s [58]
    rw[hn,XB [58] N s [] us (by omega) (by rw[hun];exact hu)]at hlen
    cases h1:us.all (okN [58])
    · rw[h1,Bool.false_and]at hk
      rw[←hk]
      simp only[Bool.false_eq_true,if_false]
      rw[if_neg (by decide),K8 _ _ _ rfl (by simp),Option.bind_some]
      exact⟨_,rfl,fun h=>by cases h⟩
    · rw[h1,Bool.true_and]at hk
      rw[h1]at hlen
      simp only[if_true,List.nil_append]at hlen⊢
      rw[if_pos (by decide)]
      cases h2:s.contains 126
      · rw[h2]at hk
        rw[←hk]
        simp only[Bool.not_false,Bool.false_eq_true,if_false,if_true]
        rw[K8 _ _ _ rfl (by omega),Option.bind_some]
        exact⟨_,rfl,fun _=>TAq hk.symm⟩
      · rw[h2]at hk
        rw[←hk]
        simp only[Bool.not_true,Bool.false_eq_true,if_false,if_true]
        rw[K8 _ _ _ rfl (by omega),Option.bind_some]
        exact⟨_,rfl,fun h=>by cases h⟩
end
end Go.VM
namespace Go.VM
section
variable{N:Nat}
theorem AMI{p:UInt8→Bool}{x:UInt8}: ∀ {l:List UInt8},x∈l.takeWhile p→p x=true
  |[],h=>by simp at h
  | c::l,h=>by
    rw[List.takeWhile_cons]at h
    split at h
    · rename_i hc
      rcases List.mem_cons.1 h with rfl|h
      · exact hc
      · exact AMI h
    · simp at h
def P5 (c:UInt8):Bool:=Da c||c==37
theorem AGm: ∀(k:Nat) (t:List UInt8) (us:List (Bool×UInt8)),un k t=some us→ ∀u,u∈us→u.1=true∨u.2≠37
  |0,_,_,h,_,_=>by cases h
  |k+1,[],us,h,u,hu=>by rw[un]at h;cases h;cases hu
  | k+1,c::t,us,h,u,hu=>by
    rw[un]at h
    split at h
    · cases he:H9 t with
      |none=>rw[he]at h;cases h
      | some x=>
        rw[he]at h
        simp only[Option.map_eq_some_iff]at h
        obtain⟨vs,hv,rfl⟩:=h
        rcases List.mem_cons.1 hu with rfl|hu
        · exact .inl rfl
        · exact AGm k _ vs hv u hu
    · rename_i hc
      simp only[Option.map_eq_some_iff]at h
      obtain⟨vs,hv,rfl⟩:=h
      rcases List.mem_cons.1 hu with rfl|hu
      · exact .inr hc
      · exact AGm k t vs hv u hu
theorem AS0: ∀ {t:List UInt8}{us:List (Bool×UInt8)},unS t=some us→(us=[]↔t=[])
  | [],us,h=>by
    have:unS []=some []:=rfl
    rw[this]at h;cases h;simp
  | c::t,us,h=>by
    unfold unS at h
    rw[un]at h
    constructor
    · rintro rfl
      split at h
      · cases he:H9 t with
        |none=>rw[he]at h;cases h
        |some x=>rw[he]at h;simp at h
      · simp at h
    · intro h;cases h
theorem OY{p:List UInt8} (hb:p.length≤16000) (hN:20000≤N):Dk N p=(match unS p with|some us=>(us.map (·.2),0)|none=>([],2)):=by
  unfold Dk
  rw[if_neg (by omega),Qn N p [] (by omega),AFc (by omega)]
  cases unS p<;>simp
def Hy (N:Nat) (p:List UInt8):List UInt8:=(Dk N p).1.flatMap Em
def jn (N:Nat):Bool→List (List UInt8)→List UInt8
  |_,[]=>[]
  |true,p::ps=>Hy N p++jn N false ps
  |false,p::ps=>58::(Hy N p++jn N false ps)
def OD (N:Nat) (p:List UInt8):Bool:=(Dk N p).2==0
theorem ADv{p:List UInt8}{u:List (Bool×UInt8)} (hb:p.length≤16000) (hN:20000≤N) (h58:p.contains 58=false) (hu:unS p=some u):
    OD N p=true∧p.all P5=u.all okD∧(u.all okD=true→Hy N p=u.flatMap guC):=by
  have hlit:=AGm _ p u hu
  have h58':=YN 58 (by decide) (by decide) _ p u hu
  rw[h58]at h58'
  have hno: ∀v,v∈u→v.1=true∨(v.2≠37∧v.2≠58):=fun v hv=>by
    rcases hlit v hv with h|h
    · exact .inl h
    · have:=List.any_eq_false.1 h58'.symm v hv
      cases hv1:v.1
      · refine .inr ⟨h,fun e=>?_⟩
        rw[hv1,e]at this;exact this rfl
      · exact .inl rfl
  refine⟨by unfold OD;rw[OY hb hN,hu];rfl,?_,fun hok=>?_⟩
  · rw[AHH P5 (fun c hc=>by unfold P5;rw[(O7 c).2.2 hc];rfl) (by decide) _ p u hu]
    clear hu h58'
    induction u with
    |nil=>rfl
    | cons v u ih=>
      rw[List.all_cons,List.all_cons,ih (fun w hw=>hlit w (by simp[hw])) (fun w hw=>hno w (by simp[hw]))]
      congr 1
      unfold okD P5
      rcases hno v (by simp)with h|⟨h1,h2⟩
      · rw[h];rfl
      · rw[show(v.2==37)=false by simpa using h1,show(v.2==58)=false by simpa using h2]
  · unfold Hy
    rw[OY hb hN,hu]
    clear hu h58' hlit
    induction u with
    |nil=>rfl
    | cons v u ih=>
      rw[List.all_cons,Bool.and_eq_true]at hok
      have ih':=ih (fun w hw=>hno w (by simp[hw])) hok.2
      simp only[List.map_cons,List.flatMap_cons]at ih'⊢
      rw[ih']
      congr 1
      unfold guC
      rcases hno v (by simp)with h|⟨h1,h2⟩
      · rw[h];rfl
      · cases hv1:v.1
        · have hpl:Da v.2=true:=by
            have:=hok.1
            unfold okD at this
            rw[hv1,show(v.2==58)=false by simpa using h2,Bool.or_false,Bool.false_or]at this
            exact this
          rw[if_neg (by decide)]
          unfold Em;rw[if_pos hpl]
        · rfl
theorem VT (hN:20000≤N): ∀(n:Nat) (l:List UInt8),l.length≤n→l.length≤16000→
    (unS l=none→(AP 58 l).all (OD N)=false)∧(∀us,unS l=some us→(AP 58 l).all (OD N)=true∧((AP 58 l).all fun p=>p.all P5)=us.all okD∧(us.all okD=true→jn N true (AP 58 l)=us.flatMap guC)):=by
  intro n
  induction n with
  | zero=>
    intro l hl _
    have:l=[]:=List.eq_nil_of_length_eq_zero (by omega)
    subst this
    refine⟨fun h=>(by cases h),fun us h=>?_⟩
    have e:unS []=some []:=rfl
    rw[e]at h;cases h
    refine⟨?_,rfl,fun _=>?_⟩
    · simp only[AP,List.all_cons,List.all_nil,Bool.and_true]
      unfold OD;rw[OY (by simp) hN];rfl
    · simp only[AP,jn,List.append_nil,Hy]
      rw[OY (by simp) hN];rfl
  | succ n ih=>
    intro l hl hb
    cases hc:l.contains 58
    · have hs:AP 58 l=[l]:=by rw[IC,MU hc];rfl
      rw[hs]
      refine⟨fun h=>?_,fun us h=>?_⟩
      · simp only[List.all_cons,List.all_nil,Bool.and_true]
        unfold OD;rw[OY hb hN,h];rfl
      · obtain⟨r1,r2,r3⟩:=ADv hb hN hc h
        refine⟨by simp[r1],by simpa using r2,fun hk=>?_⟩
        simp only[jn,List.append_nil];exact r3 hk
    · have hlt:=Ih hc
      have hs:AP 58 l=(AY 58 l).1::AP 58 (AY 58 l).2.1:=by rw[IC 58 l,if_pos (by rw[N7,hc])]
      have he:l=(AY 58 l).1++58::(AY 58 l).2.1:=by
        rw[ED hc]
        have e:=List.takeWhile_append_dropWhile (p:=(· !=(58:UInt8))) (l:=l)
        have hd:l.dropWhile (· !=(58:UInt8))=58::(l.dropWhile (· !=(58:UInt8))).drop 1:=by
          cases hq:l.dropWhile (· !=(58:UInt8))with
          |nil=>rw[hq,List.append_nil]at e;rw[e]at hlt;omega
          | cons y ys=>
            have:=List.head?_dropWhile_not (fun z=>z !=(58:UInt8)) l
            rw[hq]at this
            simp at this
            simp[this]
        conv=>lhs;rw[←e,hd]
      have hp:(AY 58 l).1.contains 58=false:=by
        rw[ED hc]
        cases h:(l.takeWhile (· !=(58:UInt8))).contains 58
        · rfl
        · have hm:(58:UInt8)∈l.takeWhile (· !=(58:UInt8)):=by simpa using h
          have:=AMI hm
          simp at this
      have hp': ∀x,x∈(AY 58 l).1→x≠58:=fun x hx e=>by
        subst e
        have:(AY 58 l).1.contains 58=true:=by simpa using hx
        rw[hp]at this;cases this
      generalize (AY 58 l).1=p at *
      generalize (AY 58 l).2.1=r at *
      have hlen:=congrArg List.length he
      simp only[List.length_append,List.length_cons]at hlen
      have hun:unS l=(unS p).bind fun u=>(unS r).map fun v=>u++(false,58)::v:=by
        unfold unS
        conv=>lhs;rw[he]
        exact TE _ p r (by simp only[List.length_append,List.length_cons];omega) hp'
      obtain⟨i1,i2⟩:=ih r (by omega) (by omega)
      rw[hs,List.all_cons,List.all_cons]
      refine⟨fun h=>?_,fun us h=>?_⟩
      · rw[hun]at h
        cases hu:unS p with
        | none=>
          have:OD N p=false:=by unfold OD;rw[OY (by omega) hN,hu];rfl
          rw[this];rfl
        | some u=>
          rw[hu]at h
          simp only[Option.bind_some,Option.map_eq_none_iff]at h
          rw[i1 h,Bool.and_false]
      · rw [hun]at h
        cases hu:unS p with
        |none=>rw[hu]at h;cases h
        | some u=>
          rw[hu]at h
          simp only[Option.bind_some,Option.map_eq_some_iff]at h
          obtain⟨v,hv,rfl⟩:=h
          obtain⟨j1,j2,j3⟩:=i2 v hv
          obtain⟨r1,r2,r3⟩:=ADv (by omega) hN hp hu
          have h58:okD (false,58)=true:=rfl
          refine⟨by rw[r1,j1];rfl,?_,fun hk=>?_⟩
          · rw[r2,j2,List.all_append,List.all_cons,h58,Bool.true_and]
          · rw[List.all_append,List.all_cons,h58,Bool.true_and,Bool.and_eq_true]at hk
            rw[List.flatMap_append,List.flatMap_cons,←r3 hk.1,←j3 hk.2]
            cases hsr:AP 58 r with
            |nil=>exact absurd hsr (Bo 58 r)
            |cons q qs=>simp only[jn];rfl
end
end Go.VM
namespace Go.VM
section
variable{N:Nat}
def mB (c:UInt8):Bool:=Ep c||(!decide (AJ c<97)&&!decide (AJ c>122))
theorem Sn (k:Unit→Option Bool): ∀l:List UInt8,Dt N k l=if l.all mB=true then k ()else some false
  |[]=>by rw[Dt];rfl
  | c::l=>by
    rw[Dt]
    dsimp only[AL]
    rw[Ph,Option.bind_some,Sn k l,List.all_cons]
    unfold mB
    cases Ep c<;>cases decide (AJ c<97)<;>cases decide (AJ c>122)<;>simp
theorem SY (k:Unit→Option Bool): ∀l:List UInt8,Ce N k l=if l.all mB=true then k ()else some false
  |[]=>by rw[Ce];rfl
  | c::l=>by
    rw[Ce]
    dsimp only[AL]
    rw[Nt,Option.bind_some,SY k l,List.all_cons]
    unfold mB
    cases Ep c<;>cases decide (AJ c<97)<;>cases decide (AJ c>122)<;>simp
def Sj (l:List UInt8):Bool:=l.all mB&&!(l==[])
theorem ALg (l:List UInt8) (hb:l.length≤1000000):Ko N l=some (Sj l):=by
  unfold Ko Sj
  rw[AL,BP (by omega),Sn]
  cases l.all mB<;>simp
theorem AMF (l:List UInt8) (hb:l.length≤1000000):Ii N l=some (Sj l):=by
  unfold Ii Sj
  rw[AL,BP (by omega),SY]
  cases l.all mB<;>simp
theorem AQj (l:List UInt8) (c:UInt8) (hb:l.length≤1000000):strings_HasSuffix N l [c]=some (l.getLast?==some c):=by
  unfold strings_HasSuffix Co
  rcases List.eq_nil_or_concat l with rfl|⟨l,x,rfl⟩
  · rfl
  · rw[List.concat_eq_append]at *
    have hb':l.length≤1000000:=by simp at hb;omega
    rw[if_pos (by simp;omega),show wr .i64 (((l++[x]).length:Int)-(([c]:List UInt8).length:Int))=((l.length:Nat):Int) by rw[BF (by simp only[List.length_append,List.length_cons,List.length_nil];omega)];simp,BZ (by simp),Option.bind_some,Option.bind_some,List.drop_left]
    simp
def Hm:ApiDID:=⟨[],[]⟩
def Ze (l:List UInt8):Bool:=l==[]||l.getLast?==some 58
def H8 (s:List UInt8):ApiDID×Int:=
  if s.length>4096 then(Hm,5)
  else if preB [100,105,100,58] s=false then(Hm,60)
  else if(AY 58 (s.drop 4)).2.2=false then(Hm,6)
  else if Sj (AY 58 (s.drop 4)).1=false then(Hm,100)
  else if((Kg (AY 58 (s.drop 4)).2.1).2 !=0)=true then(Hm,(Kg (AY 58 (s.drop 4)).2.1).2)
  else if Ze (Kg (AY 58 (s.drop 4)).2.1).1=true then(Hm,3)
  else(⟨(AY 58 (s.drop 4)).1,(Kg (AY 58 (s.drop 4)).2.1).1⟩,0)
theorem AQ8 (u:Bool×UInt8):(guC u).length≤3:=by
  have:=I7 u.2
  unfold guC;split<;>simp<;>omega
theorem AGo: ∀(k:Nat) (t:List UInt8) (us:List (Bool×UInt8)),un k t=some us→us.length≤t.length
  |0,_,_,h=>by cases h
  |k+1,[],us,h=>by rw[un]at h;cases h;simp
  | k+1,c::t,us,h=>by
    rw[un]at h
    split at h
    · cases he:H9 t with
      |none=>rw[he]at h;cases h
      | some x=>
        rw[he]at h
        simp only[Option.map_eq_some_iff]at h
        obtain⟨vs,hv,rfl⟩:=h
        have:=AGo k _ vs hv
        simp only[List.length_drop,List.length_cons]at *;omega
    · simp only[Option.map_eq_some_iff]at h
      obtain⟨vs,hv,rfl⟩:=h
      have:=AGo k _ vs hv
      simp only[List.length_cons];omega
theorem Le{α:Type}{f:α→List UInt8}{n:Nat} (h: ∀x,(f x).length≤n): ∀l:List α,(l.flatMap f).length≤n * l.length
  |[]=>by simp
  | x::l=>by
    have:=Le h l
    have:=h x
    rw[List.flatMap_cons,List.length_append,List.length_cons,Nat.mul_succ];omega
theorem ABy (s:List UInt8):(Kg s).1.length≤3 * s.length:=by
  unfold Kg
  cases hu:unS s with
  |none=>simp
  | some us=>
    simp only
    split
    · have h1:=Le AQ8 us
      have h2:=AGo _ s us hu
      simp only;omega
    · simp
theorem AHb (s:List UInt8) (hb:s.length≤1000000) (hN:20000≤N):Gv N s=some (H8 s):=by
  unfold Gv H8
  by_cases h1:s.length>4096
  · rw[if_pos (by simp;omega),if_pos h1];rfl
  rw[if_neg (by simp;omega),if_neg h1,AH0,Option.bind_some]
  cases hp:preB [100,105,100,58] s
  · rfl
  have hl:=Es 58 (s.drop 4)
  rw[List.length_drop]at hl
  simp only[if_true,List.length_cons,List.length_nil,Nat.zero_add,Nat.reduceAdd]
  rw[if_neg (by decide: ¬(true=false)),MI 58 _ (by rw[List.length_drop];omega),Option.bind_some]
  cases hc:(AY 58 (s.drop 4)).2.2
  · rfl
  simp only[if_true]
  rw[if_neg (by decide: ¬(true=false)),ALg _ (by omega),Option.bind_some]
  cases hm:Sj (AY 58 (s.drop 4)).1
  · rfl
  simp only[if_true]
  have hcl:=ABy (AY 58 (s.drop 4)).2.1
  obtain⟨v,e1,e2⟩:=APU (N:=N) (AY 58 (s.drop 4)).2.1 (by omega) hN
  rw[if_neg (by decide: ¬(true=false)),e1,Option.bind_some]
  by_cases h5:((Kg (AY 58 (s.drop 4)).2.1).2 !=0)=true
  · rw[if_pos h5,if_pos h5];rfl
  rw[if_neg h5,if_neg h5]
  have hv:=e2 (by simpa using h5)
  subst hv
  dsimp only[AL]
  rw[AQj _ _ (by omega),Option.bind_some]
  unfold Ze
  cases ((Kg (AY 58 (s.drop 4)).2.1).1==[])<;>cases ((Kg (AY 58 (s.drop 4)).2.1).1.getLast?==some 58)<;>rfl
theorem VI{l:List UInt8} (hb:l.length≤1000000) (k:List UInt8→Option (List UInt8)): ∀(t pre out:List UInt8),l=pre++t→out.length≤3 * pre.length→Bp N l k t (pre.length:Int) out=k (out++t.flatMap Em)
  |[],pre,out,h,_=>by rw[Bp];simp
  | c::t,pre,out,h,ho=>by
    have hl:=congrArg List.length h
    simp only[List.length_append,List.length_cons]at hl
    have hsub:sub l (pre.length:Int) ((pre.length:Int)+1)=some [c]:=by
      rw[show(pre.length:Int)+1=((pre.length+1:Nat):Int) by omega,CR l _ _ (by omega) (by omega),h,List.drop_left]
      simp
    have hel:=I7 c
    have nxt: ∀x:List UInt8,x=Em c→Bp N l k t ((pre.length:Int)+1) (out++x)=k (out++(c::t).flatMap Em):=fun x hx=>by
      have:=VI hb k t (pre++[c]) (out++x) (by rw[h];simp) (by rw[hx];simp only[List.length_append,List.length_cons,List.length_nil];omega)
      rw[List.flatMap_cons,←List.append_assoc,←hx,←this]
      congr 1;simp
    rw[Bp]
    dsimp only[AL]
    rw[U8,Option.bind_some,hsub,Option.bind_some,NV,Option.bind_some]
    cases hp:Da c
    · rw[if_neg (by decide),BP (by simp[Ho];omega)]
      exact nxt _ (by unfold Em;rw[hp];rfl)
    · rw[if_pos rfl,BP (by simp;omega)]
      exact nxt _ (by unfold Em;rw[hp];rfl)
theorem ADQ (l:List UInt8) (hb:l.length≤1000000):GH N l=some (l.flatMap Em):=by
  unfold GH
  rw[AL,BP (by omega)]
  have:=VI (N:=N) hb (fun j1=>some j1) l [] [] rfl (by simp)
  simpa using this
theorem rd1 (hN:20000≤N) (k:Unit→Option (ApiDID×Int)): ∀ps:List (List UInt8),Bv N k ps=if ps.all (OD N)=true then k ()else some (Hm,2)
  |[]=>by rw[Bv];rfl
  | p::ps=>by
    rw[Bv,JF _ hN,Option.bind_some,rd1 hN k ps,List.all_cons]
    unfold OD
    cases h:((Dk N p).2==0)
    · rw[if_pos (by simpa[bne]using h)];rfl
    · rw[if_neg (by simpa[bne]using h),Bool.true_and]
theorem rd3 (k:Unit→Option (ApiDID×Int)): ∀l:List UInt8,Bu N k l=if l.all P5=true then k ()else some (Hm,1)
  |[]=>by rw[Bu];rfl
  | c::l=>by
    rw[Bu]
    dsimp only[AL]
    rw[U8,Option.bind_some,rd3 k l,List.all_cons,bne,LK]
    unfold P5
    have e:(c==37)=decide (c=37):=rfl
    rw[e]
    cases Da c<;>cases decide (c=37)<;>simp[Hm]
theorem AM1 (p:List UInt8):(Hy N p).length≤3 * p.length:=by
  have h1:=Le (fun x=>(I7 x).1) (Dk N p).1
  have h2:=FU (N:=N) p
  unfold Hy;omega
theorem rd2 (hN:20000≤N) (k:List UInt8→Option (ApiDID×Int)): ∀(ps:List (List UInt8)) (i:Int) (acc:List UInt8),0≤i→(∀p,p∈ps→p.length≤20000)→acc.length+60001 * ps.length≤1000000000→
    BL N k ps i acc=if(ps.all fun p=>p.all P5)=true then k (acc++jn N (decide (i=0)) ps)else some (Hm,1)
  |[],i,acc,_,_,_=>by rw[BL];cases decide (i=0)<;>simp[jn]
  | p::ps,i,acc,hi,hp,ha=>by
    have hpl:=hp p (by simp)
    have hpt:=AM1 (N:=N) p
    simp only[List.length_cons,Nat.mul_succ]at ha
    have ih:=fun acc' h'=>rd2 hN k ps (i+1) acc' (by omega) (fun q hq=>hp q (by simp[hq])) h'
    have hd1:decide (i+1=0)=false:=decide_eq_false (by omega)
    rw[hd1]at ih
    rw[BL]
    dsimp only[AL]
    rw[BP (by omega),rd3,JF _ hN,Option.bind_some,List.all_cons]
    cases h1:p.all P5
    · rfl
    rw[if_pos rfl,Bool.true_and]
    have hdl:=FU (N:=N) p
    rw[ADQ _ (by omega),Option.bind_some]
    change (if decide (i>0)=true then grd _ (grd (AX ((acc++[58]).length+(Hy N p).length)) (BL N k ps (i+1) (acc++[58]++Hy N p)))else grd (AX (acc.length+(Hy N p).length)) (BL N k ps (i+1) (acc++Hy N p)))=_
    by_cases h0:i=0
    · rw[if_neg (by simp;omega),decide_eq_true h0,BP (by omega),ih _ (by simp only[List.length_append];omega)]
      simp only[jn,List.append_assoc]
    · rw[if_pos (by simp;omega),decide_eq_false h0,BP (by simp;omega),BP (by simp;omega),ih _ (by simp only[List.length_append,List.length_cons,List.length_nil];omega)]
      simp only[jn,List.append_assoc,List.cons_append,List.nil_append]
theorem AML (b:UInt8):(Em b).getLast?≠some 58:=by
  have key:=Ba (f:=fun n=>decide ((Em (UInt8.ofNat n)).getLast?≠some 58)) (g:=fun _=>true) (by kernel_rfl) b
  simp only[UInt8.ofNat_toNat,decide_eq_true_eq]at key
  exact key
theorem Uq (p:List UInt8):(Hy N p).getLast?≠some 58:=by
  unfold Hy
  generalize (Dk N p).1=d
  rcases List.eq_nil_or_concat d with rfl|⟨d,x,rfl⟩
  · simp
  · rw[List.concat_eq_append]
    have h1:=(I7 x).2
    rw[List.flatMap_append,List.flatMap_singleton,List.getLast?_append]
    cases h:(Em x).getLast? with
    |none=>rw[List.getLast?_eq_none_iff]at h;rw[h]at h1;simp at h1
    |some y=>simp only[Option.some_or];rw[←h];exact AML x
theorem AGa: ∀(ps:List (List UInt8)) (f:Bool) (hne:ps≠ []),Ze (jn N f ps)=(Hy N (ps.getLast hne)==[])
  |[],_,h=>absurd rfl h
  | [p],true,_=>by
    have:=Uq (N:=N) p
    simp only[jn,List.append_nil,List.getLast_singleton,Ze]
    rw[show((Hy N p).getLast?==some 58)=false by simpa using this,Bool.or_false]
  | [p],false,_=>by
    have:=Uq (N:=N) p
    simp only[jn,List.append_nil,List.getLast_singleton,Ze]
    cases hq:Hy N p with
    |nil=>rfl
    | cons y ys=>
      rw[hq]at this
      simp only[List.getLast?_cons_cons]
      rw[show((y::ys).getLast?==some 58)=false by simpa using this];rfl
  | p::q::ps,f,h=>by
    have ih:=AGa (q::ps) false (by simp)
    rw[List.getLast_cons (by simp),←ih]
    obtain⟨z,zs,hz⟩: ∃z zs,jn N false (q::ps)=z::zs:=⟨58,Hy N q++jn N false ps,rfl⟩
    cases f
    · rw[show jn N false (p::q::ps)=58::(Hy N p++jn N false (q::ps))from rfl,hz]
      unfold Ze
      simp[List.getLast?_append,List.getLast?_cons]
    · rw[show jn N true (p::q::ps)=Hy N p++jn N false (q::ps)from rfl,hz]
      unfold Ze
      simp[List.getLast?_append,List.getLast?_cons]
end
end Go.VM
