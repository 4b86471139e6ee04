import Derived.Test.YtjgdhjpafjpjgaaGreatDoorL3
set_option linter.unusedVariables false
set_option linter.unusedSimpArgs false
namespace Go.VM
section
variable{N:Nat}
def AUl:List UInt8:=[33,35,36,37,38,39,42,43,45,47,61,63,94,95,96,123,124,125,126]
def MW (c:UInt8):Bool:=JP c||(FE c||AUl.contains c)
theorem AOI (c:UInt8):MK N (AL c)=some (MW c):=by
  unfold MK MW
  rw[RB,Option.bind_some,Pw,Option.bind_some,Jd,Option.bind_some,G9]
  cases JP c<;>cases FE c<;>rfl
theorem AOe (c:UInt8):LF N (AL c)=some (MW c):=by
  unfold LF MW
  rw[OT,Option.bind_some,Od,Option.bind_some,RO c _ (by decide),Option.bind_some]
  cases JP c<;>cases FE c<;>rfl
def Qm:Bool→List UInt8→Bool
  |dot,[]=>!dot
  |dot,c::t=>if c=46 then !dot&&Qm true t else MW c&&Qm false t
theorem b46 (c:UInt8):(AL c==46)=decide (c=46):=by
  have:=Be (f:=fun n=>((n:Int)==46)) (g:=fun n=>decide (UInt8.ofNat n=46)) (by kernel_rfl) c
  simp only[UInt8.ofNat_toNat]at this
  exact this
theorem Ra (b:Bool): ∀(l:List UInt8) (dot:Bool),D6 N (fun j1=>if j1=true then some false else some b) l dot=some (Qm dot l&&b)
  |[],dot=>by rw[D6,Qm];cases dot<;>simp
  | c::t,dot=>by
    rw[D6,Qm]
    dsimp only[AJ]
    rw[AOI,Option.bind_some,bne,b46]
    by_cases hc:c=46
    · rw[decide_eq_true hc,if_neg (by decide),if_pos rfl,if_pos hc,Ra b t]
      cases dot<;>simp
    · rw[decide_eq_false hc,if_pos (by decide),if_neg hc]
      cases ha:MW c
      · rfl
      · simp only[if_true,Bool.false_eq_true,if_false]
        rw[Ra b t];simp
theorem ARB (l:List UInt8) (hb:l.length≤1000000):Kt N l=some (Qm true l&&decide (l.length≤64)):=by
  unfold Kt
  have e:decide ((l.length:Int)≤64)=decide (l.length≤64):=by
    congr 1;simp only[eq_iff_iff];omega
  rw[AJ,BL (by omega),Ra,e]
theorem RV: ∀(l:List UInt8) (dot:Bool),Qm dot l=(match AU 46 l with|p::ps=>(!(dot&&(p==[])))&&(p.all MW&&ps.all fun q=>!(q==[])&&q.all MW)|[]=>false)
  |[],dot=>by cases dot<;>rfl
  | c::t,dot=>by
    rw[Qm,AU]
    by_cases hc:c=46
    · rw[if_pos hc,if_pos hc,RV t true]
      cases hs:AU 46 t with
      |nil=>exact absurd hs (Br 46 t)
      |cons p ps=>cases dot<;>simp[Bool.and_assoc]
    · rw[if_neg hc,if_neg hc,RV t false]
      cases hs:AU 46 t with
      |nil=>exact absurd hs (Br 46 t)
      |cons p ps=>cases dot<;>simp[Bool.and_assoc]
theorem AST (k:Unit→Option Bool): ∀l:List UInt8,DC N k l=if l.all MW=true then k ()else some false
  |[]=>by rw[DC];rfl
  | c::l=>by
    rw[DC,AOe,Option.bind_some,AST k l]
    cases h:MW c<;>simp[h]
theorem ASV (k:Unit→Option Bool): ∀ps:List (List UInt8),(∀p,p∈ps→p.length≤1000000)→DD N k ps=if(ps.all fun q=>!(q==[])&&q.all MW)=true then k ()else some false
  |[],_=>by rw[DD];rfl
  | p::ps,h=>by
    have hp:=h p (by simp)
    rw[DD]
    dsimp only[AJ]
    rw[AST,ASV k ps fun q hq=>h q (by simp[hq]),List.all_cons]
    cases hx:(p==([]:List UInt8))
    · rw[if_neg (by decide),BL (by omega)]
      cases p.all MW<;>simp
    · rw[if_pos rfl];rfl
theorem ARs (l:List UInt8) (hb:l.length≤1000000):J6 N l=some (Qm true l&&decide (l.length≤64)):=by
  have hp:=Eo 46 l
  have hl:=FV 46 l
  unfold J6
  dsimp only[AJ]
  rw[show(46:Int)=AL 46 from rfl,Km l 46 hb,Option.bind_some,BL (by omega),ASV _ _ fun p h=>by have:=hp p h;omega]
  by_cases h0:l=[]
  · subst h0;rfl
  rw[if_neg (by simpa using h0)]
  have e:decide ((l.length:Int)>64)=!decide (l.length≤64):=by
    by_cases h:l.length≤64
    · rw[decide_eq_true h,decide_eq_false (by omega)];rfl
    · rw[decide_eq_false h,decide_eq_true (by omega)];rfl
  have hs:(AU 46 l).all (fun q=>!(q==[])&&q.all MW)=Qm true l:=by
    rw[RV l true]
    cases hs:AU 46 l with
    |nil=>exact absurd hs (Br 46 l)
    |cons p ps=>simp[Bool.and_assoc]
  rw[e,hs]
  cases decide (l.length≤64)<;>cases Qm true l<;>rfl
def NI:List UInt8:=[33,36,39,42,43]
def Sg:List UInt8:=[37,33,36,39,42,43]
def AG9 (c:UInt8):Bool:=C8 c||Sg.contains c
def H5:ApiMail:=⟨[],[]⟩
theorem AFX (k:Unit→Option (ApiMail×Int)): ∀l:List UInt8,Dz N k l=if l.all AG9=true then k ()else some (H5,1)
  |[]=>by rw[Dz];rfl
  | c::l=>by
    rw[Dz]
    dsimp only[AJ]
    rw[Qd,Option.bind_some,Jd,Option.bind_some,AFX k l,List.all_cons]
    have e:decide (Go.Lib.indexByte ([37,33,36,39,42,43]:List UInt8) c<0)=!Sg.contains c:=by
      rw[←G9 c Sg]
      unfold Sg
      by_cases h:Go.Lib.indexByte ([37,33,36,39,42,43]:List UInt8) c<0
      · rw[decide_eq_true h,decide_eq_false (by omega)];rfl
      · rw[decide_eq_false h,decide_eq_true (by omega)];rfl
    rw[e]
    unfold AG9
    cases C8 c<;>cases Sg.contains c<;>simp[H5]
theorem ADF{x8:List UInt8} (k:Unit→Option (ApiMail×Int)): ∀(l rest pre:List UInt8),x8=pre++(l++rest)→DL N x8 k l.length pre.length=if l.all AG9=true then k ()else some (H5,1)
  |[],rest,pre,_=>by rw[List.length_nil,DL];rfl
  | c::l,rest,pre,h=>by
    rw[List.length_cons,DL]
    dsimp only[AJ]
    have hget:idx x8 (pre.length:Int)=some c:=by rw[IR,h,List.getElem?_append_right (Nat.le_refl _),Nat.sub_self];rfl
    have ih:=ADF (x8:=x8) k l rest (pre++[c]) (by rw[h];simp)
    rw[List.length_append,List.length_singleton]at ih
    rw[hget,Option.bind_some,QC,Option.bind_some,RO c _ (by decide),Option.bind_some,show(pre.length:Int)+1=((pre.length+1:Nat):Int) by omega,ih,List.all_cons]
    change (if C8 c=true then _ else if(!Sg.contains c)=true then _ else _)=_
    unfold AG9
    cases C8 c<;>cases Sg.contains c<;>simp[H5]
def AH9 (N:Nat) (l h:List UInt8):ApiMail×Int:=
  if l.all AG9=false then(H5,1)
  else if((Dw N l).2 !=0)=true then(H5,(Dw N l).2)
  else if(Qm true (Dw N l).1&&decide ((Dw N l).1.length≤64))=false then(H5,80)
  else if((FZ h).2 !=0)=true then(H5,(FZ h).2)
  else if UO (FZ h).1=true then(H5,50)
  else(⟨(Dw N l).1,(FZ h).1⟩,0)
def NG (N:Nat) (s:List UInt8):ApiMail×Int:=
  if s.length>4096 then(H5,5)
  else if s.length<7 then(H5,60)
  else if((s.take 7).map Dn==List.map Dn [109,97,105,108,116,111,58])=false then(H5,60)
  else if((Aa 64 (s.drop 7)).2.2&&!((s.drop 7).any ([63,35]:List UInt8).contains))=false then(H5,6)
  else AH9 N (Aa 64 (s.drop 7)).1 (Aa 64 (s.drop 7)).2.1
theorem Xu: ∀(k:Nat) (t out:List UInt8),(OE k t out).1.length≤out.length+t.length
  |0,t,out=>by simp[OE]
  |k+1,[],out=>by simp[OE]
  | k+1,c::t,out=>by
    rw[OE]
    split
    · cases h:IW t with
      |none=>simp
      | some x=>
        have h2:=OY h
        have:=Xu k (t.drop 2) (out++[x])
        simp only[List.length_append,List.length_drop,List.length_cons,List.length_nil]at *
        omega
    · have:=Xu k t (out++[c])
      simp only[List.length_append,List.length_cons,List.length_nil]at *;omega
theorem Fb (s:List UInt8):(Dw N s).1.length≤s.length:=by
  unfold Dw
  split
  · simp
  · have:=Xu N s [];simpa using this
theorem APM{set:List UInt8}: ∀ {l:List UInt8},decide ((((l.takeWhile fun x=>!set.contains x).length:Nat):Int)<(l.length:Int))=l.any set.contains
  |[]=>by simp
  | c::l=>by
    have ih:=APM (set:=set) (l:=l)
    rw[List.takeWhile_cons,List.any_cons]
    cases h:set.contains c
    · simp only[Bool.not_false,if_true,List.length_cons,Bool.false_or]
      rw[←ih];congr 1;simp only[eq_iff_iff];omega
    · simp
theorem ACT{p:List UInt8} (h:(p.map Dn==List.map Dn [109,97,105,108,116,111,58])=true): ∀x,x∈p→x.toNat<128∧([63,35]:List UInt8).contains x=false:=by
  intro x hx
  have hm:Dn x∈List.map Dn [109,97,105,108,116,111,58]:=by rw[←beq_iff_eq.1 h];exact List.mem_map_of_mem hx
  have key:=Be (f:=fun n=>(!(List.map Dn [109,97,105,108,116,111,58]).contains (Dn (UInt8.ofNat n)))||(decide (n<128)&&!([63,35]:List UInt8).contains (UInt8.ofNat n))) (g:=fun _=>true) (by kernel_rfl) x
  simp only[UInt8.ofNat_toNat]at key
  rw[show(List.map Dn [109,97,105,108,116,111,58]).contains (Dn x)=true by simpa using hm]at key
  simp only[Bool.not_true,Bool.false_or,Bool.and_eq_true,decide_eq_true_eq]at key
  exact⟨key.1,by simpa using key.2⟩
theorem AOo{s:List UInt8} (h:((s.take 7).map Dn==List.map Dn [109,97,105,108,116,111,58])=true):s.any ([63,35]:List UInt8).contains=(s.drop 7).any ([63,35]:List UInt8).contains:=by
  conv=>lhs;rw[←List.take_append_drop 7 s]
  rw[List.any_append]
  have:(s.take 7).any ([63,35]:List UInt8).contains=false:=by
    rw[List.any_eq_false]
    intro x hx
    rw[(ACT h x hx).2];decide
  rw[this,Bool.false_or]
theorem AOb (s:List UInt8) (hb:s.length≤1000000) (hN:20000≤N):K3 N s=some (NG N s):=by
  unfold K3 NG
  by_cases h1:s.length>4096
  · rw[if_pos (by simp;omega),if_pos h1];rfl
  rw[if_neg (by simp;omega),if_neg h1]
  dsimp only[AJ]
  by_cases h2:s.length<7
  · rw[if_pos (by simp;omega),if_pos h2,if_pos rfl];rfl
  have hl:=FD 64 (s.drop 7)
  rw[List.length_drop]at hl
  rw[if_neg (by simp;omega),if_neg h2,show sub s 0 7=some (s.take 7)from(CV s 0 7 (by omega) (by omega)).trans (by simp),Option.bind_some,RY _ _ (by rw[List.length_take];omega) (by decide),Option.bind_some,show sub s 7 (s.length:Int)=some (s.drop 7)from Bi (n:=7) (by omega),Option.bind_some,Ms 64 _ (by rw[List.length_drop];omega),Option.bind_some]
  cases hp:(List.map Dn (s.take 7)==List.map Dn [109,97,105,108,116,111,58])
  · simp only[Bool.not_false,if_true];rfl
  simp only[Bool.not_true,Bool.false_eq_true,if_false]
  rw[if_neg (by decide: ¬(true=false)),Oh]
  cases hc:(s.drop 7).contains 64
  · simp only[Bool.false_eq_true,if_false,if_true,Bool.false_and];rfl
  simp only[if_true,Bool.true_and]
  rw [AGV (by decide) (by decide) (by decide) (by
    intro h8 c hcm
    have hcs:c∈s:=(List.takeWhile_sublist _).subset hcm
    rw[←List.take_append_drop 7 s,List.mem_append]at hcs
    rcases hcs with hcs|hcs
    · exact(ACT hp c hcs).1
    · have hd:(s.drop 7).length≤1:=by rw[List.length_drop];omega
      match hq:s.drop 7,hd,hc,hcs with
      | [x],_,hc,hcs=>
        simp only[List.contains_cons,List.contains_nil,Bool.or_false]at hc
        have:c=x:=by simpa using hcs
        have h64:x=64:=(beq_iff_eq.1 hc).symm
        rw[this,h64];decide) (by omega) (by omega),Option.bind_some,AOo hp]
  cases (s.drop 7).any ([63,35]:List UInt8).contains
  rotate_left
  · rfl
  simp only[Bool.false_eq_true,if_false,Bool.not_false]
  rw[if_neg (by decide: ¬(true=false)),BL (by omega),AFX]
  unfold AH9
  cases (Aa 64 (s.drop 7)).1.all AG9
  · rfl
  simp only[if_true]
  rw[if_neg (by decide: ¬(true=false)),Kw _ hN,Option.bind_some]
  have hdl:=Fb (N:=N) (Aa 64 (s.drop 7)).1
  generalize Dw N (Aa 64 (s.drop 7)).1=D at *
  by_cases h5:(D.2 !=0)=true
  · rw[if_pos h5,if_pos h5];rfl
  rw[if_neg h5,if_neg h5,ARB _ (by omega),Option.bind_some]
  cases (Qm true D.1&&decide (D.1.length≤64))
  · rfl
  simp only[if_true]
  rw[if_neg (by decide: ¬(true=false)),TR _ (by omega),Option.bind_some]
  have hh:=MQ (Aa 64 (s.drop 7)).2.1
  generalize FZ (Aa 64 (s.drop 7)).2.1=H at *
  by_cases h6:(H.2 !=0)=true
  · rw[if_pos h6,if_pos h6];rfl
  rw[if_neg h6,if_neg h6,AIN _ (by omega),Option.bind_some]
  cases UO H.1<;>rfl
theorem AOp (s:List UInt8) (hb:s.length≤1000000) (hN:20000≤N):J7 N s=some (NG N s):=by
  unfold J7 NG
  by_cases h1:s.length>4096
  · rw[if_pos (by simp;omega),if_pos h1];rfl
  rw[if_neg (by simp;omega),if_neg h1]
  dsimp only[AJ]
  by_cases h2:s.length<7
  · rw[if_pos (by simp;omega),if_pos h2,if_pos rfl];rfl
  have hl:=FD 64 (s.drop 7)
  have hdl:(s.drop 7).length≤1000000:=by rw[List.length_drop];omega
  rw[List.length_drop]at hl
  rw[if_neg (by simp;omega),if_neg h2,show sub s 0 7=some (s.take 7)from(CV s 0 7 (by omega) (by omega)).trans (by simp),Option.bind_some,RQ _ _ (by rw[List.length_take];omega) (by decide),Option.bind_some,show sub s 7 (s.length:Int)=some (s.drop 7)from Bi (n:=7) (by omega),Option.bind_some,ARt 64 _ hdl,Option.bind_some,QI,Oh]
  cases hp:(List.map Dn (s.take 7)==List.map Dn [109,97,105,108,116,111,58])
  · simp only[Bool.not_false,if_true];rfl
  simp only[Bool.not_true,Bool.false_eq_true,if_false]
  rw[if_neg (by decide: ¬(true=false))]
  cases hc:(s.drop 7).contains 64
  · simp only[Bool.not_false,if_true,Bool.false_and];rfl
  simp only[Bool.not_true,Bool.false_eq_true,if_false,Bool.true_and]
  rw[Ii _ [63,35] (by decide) (by omega),Option.bind_some,APM]
  cases (s.drop 7).any ([63,35]:List UInt8).contains
  rotate_left
  · rfl
  simp only[Bool.false_eq_true,if_false,Bool.not_false]
  obtain⟨s1,s2⟩:=Px hc hdl
  have hlt:=JG hc
  have hcut:(Aa 64 (s.drop 7)).1=(s.drop 7).takeWhile (· !=64):=by rw[EN hc]
  have hpre:s.drop 7=[]++((Aa 64 (s.drop 7)).1++(s.drop 7).dropWhile (· !=64)):=by rw[hcut,List.nil_append,List.takeWhile_append_dropWhile]
  have hloop:=fun k=>ADF (N:=N) (x8:=s.drop 7) k (Aa 64 (s.drop 7)).1 _ [] hpre
  rw[if_neg (by decide: ¬(true=false)),AZ (by omega),Int.sub_zero,Int.toNat_natCast,←hcut]
  refine(hloop _).trans ?_
  rw[←hcut]at s1 s2
  unfold AH9
  cases (Aa 64 (s.drop 7)).1.all AG9
  · rfl
  simp only[if_true]
  rw[if_neg (by decide: ¬(true=false)),s1,Option.bind_some,Jg _ hN,Option.bind_some]
  have hdl:=Fb (N:=N) (Aa 64 (s.drop 7)).1
  generalize Dw N (Aa 64 (s.drop 7)).1=D at *
  by_cases h5:(D.2 !=0)=true
  · rw[if_pos h5,if_pos h5];rfl
  rw[if_neg h5,if_neg h5,ARs _ (by omega),Option.bind_some]
  cases (Qm true D.1&&decide (D.1.length≤64))
  · rfl
  simp only[if_true]
  rw[if_neg (by decide: ¬(true=false)),s2,Option.bind_some,UF,Option.bind_some]
  have hh:=MQ (Aa 64 (s.drop 7)).2.1
  generalize FZ (Aa 64 (s.drop 7)).2.1=H at *
  by_cases h6:(H.2 !=0)=true
  · rw[if_pos h6,if_pos h6];rfl
  rw[if_neg h6,if_neg h6,AIO _ (by omega),Option.bind_some]
  cases UO H.1<;>rfl
def VL (m:ApiMail):List UInt8:=(([109,97,105,108,116,111,58]++m.local_.flatMap (Hy NI))++[64])++m.host
theorem Li (keep:List UInt8): ∀l:List UInt8,(l.flatMap (Hy keep)).length≤3 * l.length
  |[]=>by simp
  | c::l=>by
    have:=Li keep l
    have:=UX keep c
    rw[List.flatMap_cons,List.length_append,List.length_cons];omega
theorem AJr (m:ApiMail) (h:m.local_.length≤100000∧m.host.length≤100000):KF N m=some (VL m):=by
  have:=Li NI m.local_
  unfold KF VL
  rw[PW _ _ (by omega),Option.bind_some]
  change grd (AV (_+(m.local_.flatMap (Hy NI)).length)) (grd _ (grd _ (some ((([109,97,105,108,116,111,58]++m.local_.flatMap (Hy NI))++[64])++m.host))))=_
  rw[BL (by simp only[List.length_cons,List.length_nil];omega),BL (by simp only[List.length_append,List.length_cons,List.length_nil];change _+(m.local_.flatMap (Hy NI)).length+_≤_;omega),BL (by simp only[List.length_append,List.length_cons,List.length_nil];change _+(m.local_.flatMap (Hy NI)).length+_+_≤_;omega)]
theorem ALm (m:ApiMail) (h:m.local_.length≤100000∧m.host.length≤100000):JR N m=some (VL m):=by
  have:=Li NI m.local_
  unfold JR VL
  rw[TU _ _ (by decide) (by omega),Option.bind_some]
  change grd (AV (_+(m.local_.flatMap (Hy NI)).length)) (grd _ (grd _ (some ((([109,97,105,108,116,111,58]++m.local_.flatMap (Hy NI))++[64])++m.host))))=_
  rw[BL (by simp only[List.length_cons,List.length_nil];omega),BL (by simp only[List.length_append,List.length_cons,List.length_nil];change _+(m.local_.flatMap (Hy NI)).length+_≤_;omega),BL (by simp only[List.length_append,List.length_cons,List.length_nil];change _+(m.local_.flatMap (Hy NI)).length+_+_≤_;omega)]
theorem Qs (s:List UInt8):(NG N s).1.local_.length≤4096∧(NG N s).1.host.length≤253:=by
  have hh:=MQ (Aa 64 (s.drop 7)).2.1
  have hn:=Fb (N:=N) (Aa 64 (s.drop 7)).1
  have hl:=FD 64 (s.drop 7)
  rw[List.length_drop]at hl
  unfold NG AH9
  split
  · simp[H5]
  split
  · simp[H5]
  split
  · simp[H5]
  split
  · simp[H5]
  split
  · simp[H5]
  split
  · simp[H5]
  split
  · simp[H5]
  split
  · simp[H5]
  split
  · simp[H5]
  · dsimp only;omega
end
end Go.VM
namespace Go.VM
section
variable{N:Nat}
theorem TF (d:Bool) (b s:List UInt8) (h:b.length+s.length≤1000000000):Ad N ⟨d,b⟩ s=some ((s.length:Int),(),⟨true,b++s⟩):=by
  unfold Ad EM
  cases d<;>simp only[Bool.false_eq_true,if_false,if_true,Option.bind_some]<;>rw[AZ (Jb (by omega))]
def R4 (r:List UInt8) (x c:UInt8):List UInt8:=if c=x then r else [c]
theorem Su{r:List UInt8}{x:UInt8}: ∀ {l:List UInt8},l.contains x=false→l.flatMap (R4 r x)=l
  |[],_=>rfl
  | c::l,h=>by
    rw[List.contains_cons,Bool.or_eq_false_iff]at h
    have hc: ¬c=x:=by rintro rfl;simp at h
    rw[List.flatMap_cons,Su h.2,R4,if_neg hc];rfl
theorem AP7{r:List UInt8}{x:UInt8}{l:List UInt8} (h:l.contains x=true):l.flatMap (R4 r x)=(Aa x l).1++(r++(Aa x l).2.1.flatMap (R4 r x)):=by
  induction l with
  |nil=>simp at h
  | cons c t ih=>
    by_cases hc:c=x
    · subst hc
      rw[EN h,List.flatMap_cons,R4,if_pos rfl];simp
    · have e1:(x==c)=false:=by simpa using fun e:x=c=>hc e.symm
      have e2:(c !=x)=true:=by simpa using hc
      have ht:t.contains x=true:=by rw[List.contains_cons,e1,Bool.false_or]at h;exact h
      have hi:=ih ht
      rw[EN h,List.takeWhile_cons,e2,List.dropWhile_cons,e2,List.flatMap_cons,hi,R4,if_neg hc]
      rw[EN ht];simp
theorem ADQ{l r:List UInt8}{x:UInt8} (hb:l.length≤1000000) (hr:r.length≤3) (k18:Int×Bool×List UInt8→Option (List UInt8)): ∀(k:Nat) (t pre buf:List UInt8) (d:Bool),l=pre++t→t.count x=k→buf.length+3 * t.length≤100000000→
    ∃last pre' buf' d',l=pre'++last∧buf'++last=buf++t.flatMap (R4 r x)∧buf'.length≤100000000∧Bn N l [x] r k18 k pre.length d buf=k18 ((pre'.length:Int),d',buf')
  | 0,t,pre,buf,d,h,hk,ho=>by
    have h0:=MV.1 hk
    exact⟨t,pre,buf,d,h,by rw[Su h0],by omega,by rw[Bn]⟩
  | k+1,t,pre,buf,d,h,hk,ho=>by
    have hl:=congrArg List.length h
    simp only[List.length_append]at hl
    have h1:t.contains x=true:=by
      cases h':t.contains x
      · have:=MV.2 h';omega
      · rfl
    have hlt:=JG h1
    have hcnt:t.count x=(Aa x t).2.1.count x+1:=by rw[EN h1];exact Q5 h1
    have hc:=FD x t
    have he:t=(Aa x t).1++(x::(Aa x t).2.1):=by
      rw[EN h1]
      have e:=List.takeWhile_append_dropWhile (p:=(· !=x)) (l:=t)
      have hd:t.dropWhile (· !=x)=x::(t.dropWhile (· !=x)).drop 1:=by
        cases hq:t.dropWhile (· !=x)with
        |nil=>rw[hq,List.append_nil]at e;rw[e]at hlt;omega
        | cons y ys=>
          have:=List.head?_dropWhile_not (fun z=>z !=x) t
          rw[hq]at this
          simp at this
          simp[this]
      conv=>lhs;rw[←e,hd]
    have hlen:(Aa x t).1.length+1+(Aa x t).2.1.length=t.length:=by
      have:=congrArg List.length he
      simp only[List.length_append,List.length_cons]at this;omega
    have hi:(Go.Lib.indexByte t x)=((Aa x t).1.length:Int):=by rw[JC,if_pos h1,EN h1]
    have hlp:l=(pre++(Aa x t).1++[x])++(Aa x t).2.1:=by
      rw[h]
      conv=>lhs;rw[he]
      simp
    obtain⟨last,pre',buf',d',q1,q2,q3,q4⟩:=ADQ (x:=x) hb hr k18 k (Aa x t).2.1 (pre++(Aa x t).1++[x]) (buf++(Aa x t).1++r) true hlp (by omega) (by simp only[List.length_append];omega)
    refine⟨last,pre',buf',d',q1,?_,q3,?_⟩
    · rw[q2,AP7 h1];simp
    · have hdl:l.drop pre.length=t:=by rw[h,List.drop_left]
      rw[Bn,Bi (by omega),Option.bind_some,hdl,ZZ,Option.bind_some,hi]
      have w1:wr .i64 ((pre.length:Int)+((Aa x t).1.length:Int))=((pre.length+(Aa x t).1.length:Nat):Int):=by rw[BH (by omega)];omega
      have w2:wr .i64 (((pre.length+(Aa x t).1.length:Nat):Int)+(([x]:List UInt8).length:Int))=((pre.length+(Aa x t).1.length+1:Nat):Int):=by rw[BH (by simp;omega)];simp
      have hseg:(l.drop pre.length).take (pre.length+(Aa x t).1.length-pre.length)=(Aa x t).1:=by
        rw[hdl,Nat.add_sub_cancel_left,EN h1]
        exact Ja ..
      rw[w1,w2,CV l _ _ (by omega) (by omega),Option.bind_some,hseg,TF _ _ _ (by omega),Option.bind_some]
      dsimp only
      rw[TF _ _ _ (by simp only[List.length_append];omega),Option.bind_some]
      dsimp only
      have e9:pre.length+(Aa x t).1.length+1=(pre++(Aa x t).1++[x]).length:=by simp only[List.length_append,List.length_cons,List.length_nil]
      rw[e9]
      exact q4
theorem Lf (l:List UInt8) (x:UInt8) (r:List UInt8) (hr:r.length=3) (hb:l.length≤1000000):strings_ReplaceAll N l [x] r=some (l.flatMap (R4 r x)):=by
  have hcl:l.count x≤l.length:=List.count_le_length
  have hcnt:strings_Count N l [x]=some ((l.count x:Nat):Int):=by
    unfold strings_Count
    rw[if_neg (by exact Bool.false_ne_true),if_pos (by rfl),show idx [x] 0=some x from rfl,Option.bind_some,Iy]
    rfl
  have hne: ¬(([x]:List UInt8)==r)=true:=by
    intro h
    have:=beq_iff_eq.1 h
    rw[←this]at hr;simp at hr
  unfold strings_ReplaceAll strings_Replace
  dsimp only[AJ]
  rw[if_neg hne,if_neg (by decide),hcnt,Option.bind_some]
  by_cases h0:l.count x=0
  · rw[if_pos (by rw[h0];rfl),Option.bind_some,Su (MV.1 h0)]
  rw[if_neg (by simpa using h0),if_pos (by decide),if_pos rfl]
  have wg:wr .i64 ((l.length:Int)+(wr .i64 (((l.count x:Nat):Int) * (wr .i64 ((r.length:Int)-(([x]:List UInt8).length:Int))))))=((l.length+l.count x * 2:Nat):Int):=by
    rw[hr,show wr .i64 (((3:Nat):Int)-(([x]:List UInt8).length:Int))=2 from rfl,BH (n:=((l.count x:Nat):Int) * 2) (by omega),BH (by omega)];simp
  rw[wg]
  unfold FQ
  rw[AZ (by omega),Option.bind_some,if_pos (by simp),AZ (by omega),Int.sub_zero,Int.toNat_natCast]
  obtain⟨last,pre',buf',d',q1,q2,q3,q4⟩:=ADQ (N:=N) (l:=l) (r:=r) (x:=x) hb (by omega) (fun j17:Int×Bool×(List UInt8)=>
     Option.bind (sub l j17.1 (l.length:Int)) fun x41=>
     Option.bind (Ad N (StringsBuilder.mk j17.2.1 j17.2.2) x41) fun y42=>
     Option.bind (CL N y42.2.2) fun y44=>
     some (y44.1)) (l.count x) l [] [] true rfl rfl (by simp;omega)
  have hl:=congrArg List.length q1
  simp only[List.length_append]at hl
  rw[show(([]:List UInt8).length:Int)=0 from rfl]at q4
  rw[q4,Bi (by omega),Option.bind_some,show l.drop pre'.length=last by rw[q1,List.drop_left],TF _ _ _ (by dsimp only;omega),Option.bind_some]
  unfold CL
  simp only[Option.bind_some]
  rw[q2];rfl
end
end Go.VM
namespace Go.VM
section
variable{N:Nat}
def un:Nat→List UInt8→Option (List (Bool×UInt8))
  |0,_=>none
  |_+1,[]=>some []
  |k+1,c::t=>if c=37 then(match IW t with|some x=>(un k (t.drop 2)).map ((true,x):: ·)|none=>none)else(un k t).map ((false,c):: ·)
theorem WF: ∀(k k':Nat) (t:List UInt8),t.length<k→t.length<k'→un k t=un k' t
  |0,_,_,h,_=>by omega
  |_,0,_,_,h=>by omega
  |k+1,k'+1,[],_,_=>rfl
  | k+1,k'+1,c::t,h,h'=>by
    simp only[List.length_cons]at h h'
    rw[un,un]
    split
    · cases he:IW t with
      |none=>rfl
      |some x=>simp only;rw[WF k k' (t.drop 2) (by rw[List.length_drop];omega) (by rw[List.length_drop];omega)]
    · rw[WF k k' t (by omega) (by omega)]
def unS (t:List UInt8):Option (List (Bool×UInt8)):=un (t.length+1) t
theorem AFs{k:Nat}{t:List UInt8} (h:t.length<k):un k t=unS t:=WF k _ t h (Nat.lt_succ_self _)
theorem Qu: ∀(k:Nat) (t out:List UInt8),t.length<k→OE k t out=(match un k t with|some us=>(out++us.map (·.2),0)|none=>([],2))
  |0,_,_,h=>by omega
  |k+1,[],out,_=>by simp[OE,un]
  | k+1,c::t,out,h=>by
    simp only[List.length_cons]at h
    rw[OE,un]
    split
    · cases he:IW t with
      |none=>rfl
      | some x=>
        simp only
        rw[Qu k (t.drop 2) (out++[x]) (by rw[List.length_drop];omega)]
        cases un k (t.drop 2)<;>simp
    · rw[Qu k t (out++[c]) (by omega)]
      cases un k t<;>simp
def nuC (u:Bool×UInt8):List UInt8:=if u.1=true then(if C8 u.2=true then [u.2]else IC u.2)else [u.2]
def okN (also:List UInt8) (u:Bool×UInt8):Bool:=u.1||(C8 u.2||also.contains u.2)
theorem WQ (also:List UInt8): ∀(k:Nat) (t out:List UInt8) (us:List (Bool×UInt8)),t.length<k→un k t=some us→Np also k t out=if us.all (okN also)=true then(out++us.flatMap nuC,0)else([],1)
  |0,_,_,_,h,_=>by omega
  | k+1,[],out,us,_,hu=>by
    rw[un]at hu;cases hu;simp[Np]
  | k+1,c::t,out,us,h,hu=>by
    simp only[List.length_cons]at h
    rw[un]at hu
    rw[Np]
    split at hu
    · rename_i hc
      rw[if_pos hc]
      cases he:IW t with
      |none=>rw[he]at hu;cases hu
      | some x=>
        rw[he]at hu
        simp only[Option.map_eq_some_iff]at hu
        obtain⟨vs,hv,rfl⟩:=hu
        simp only
        rw[WQ also k (t.drop 2) _ vs (by rw[List.length_drop];omega) hv,List.all_cons,show okN also (true,x)=true from rfl,Bool.true_and,List.flatMap_cons,←List.append_assoc]
        rfl
    · rename_i hc
      rw[if_neg hc]
      simp only[Option.map_eq_some_iff]at hu
      obtain⟨vs,hv,rfl⟩:=hu
      have ih:=WQ also k t (out++[c]) vs (by omega) hv
      cases hx:(C8 c||also.contains c)
      · rw[if_neg (by decide),List.all_cons,show okN also (false,c)=false from hx,Bool.false_and,if_neg (by decide)]
      · rw[if_pos rfl,ih,List.all_cons,show okN also (false,c)=true from hx,Bool.true_and,List.flatMap_cons,←List.append_assoc];rfl
theorem ASd:Ke 58=false:=by decide
theorem API{p r:List UInt8} (h58: ∀x,x∈p→x≠58):IW (p++58::r)=IW p∧(IW p≠none→2≤p.length):=by
  match p with
  | []=>
    refine⟨?_,fun h=>absurd rfl h⟩
    cases r with
    |nil=>rfl
    |cons y r=>simp[IW,ASd]
  |[a]=>exact⟨by simp[IW,ASd],fun h=>absurd rfl h⟩
  |a::b::q=>exact⟨rfl,fun _=>by simp⟩
theorem Sr: ∀(k:Nat) (p r:List UInt8),(p++58::r).length<k→(∀x,x∈p→x≠58)→un k (p++58::r)=(unS p).bind fun u=>(unS r).map fun v=>u++(false,58)::v
  |0,_,_,h,_=>by omega
  | k+1,[],r,h,_=>by
    simp only[List.nil_append,List.length_cons]at h
    rw[List.nil_append,un,if_neg (by decide),AFs (by omega)]
    have:unS []=some []:=rfl
    rw[this];rfl
  | k+1,c::p,r,h,h58=>by
    simp only[List.cons_append,List.length_cons,List.length_append]at h
    have hp58: ∀x,x∈p→x≠58:=fun x hx=>h58 x (by simp[hx])
    rw[List.cons_append,un]
    have hunS:unS (c::p)=if c=37 then(match IW p with|some x=>(un (p.length+1) (p.drop 2)).map ((true,x):: ·)|none=>none)else(un (p.length+1) p).map ((false,c):: ·):=rfl
    rw[hunS]
    obtain⟨e1,e2⟩:=API (r:=r) hp58
    split
    · rw[e1]
      cases he:IW p with
      |none=>rfl
      | some x=>
        have h2:2≤p.length:=e2 (by rw[he];simp)
        simp only
        rw[List.drop_append_of_le_length h2,Sr k (p.drop 2) r (by simp only[List.length_append,List.length_drop,List.length_cons];omega) (fun y hy=>hp58 y (List.mem_of_mem_drop hy)),AFs (t:=p.drop 2) (by rw[List.length_drop];omega)]
        cases unS (p.drop 2)with
        |none=>rfl
        |some u=>cases unS r<;>rfl
    · rw[Sr k p r (by simp only[List.length_append,List.length_cons];omega) hp58,AFs (t:=p) (by omega)]
      cases unS p with
      |none=>rfl
      |some u=>cases unS r<;>rfl
theorem Zk (x:UInt8) (hx:Ke x=false) (h37:x≠37): ∀(k:Nat) (t:List UInt8) (us:List (Bool×UInt8)),un k t=some us→t.contains x=us.any fun u=>!u.1&&u.2==x
  |0,_,_,h=>by cases h
  |k+1,[],us,h=>by rw[un]at h;cases h;rfl
  | k+1,c::t,us,h=>by
    rw[un]at h
    split at h
    · rename_i hc
      match t,h with
      |[],h=>cases h
      |[_],h=>cases h
      | a::b::r,h=>
        simp only[IW]at h
        by_cases hh:(Ke a&&Ke b)=true
        · rw[if_pos hh]at h
          simp only[Option.map_eq_some_iff]at h
          obtain⟨vs,hv,rfl⟩:=h
          have ih:=Zk x hx h37 k r vs hv
          rw[Bool.and_eq_true]at hh
          have ha:(x==a)=false:=by simp only[beq_eq_false_iff_ne,ne_eq];rintro rfl;rw[hx]at hh;cases hh.1
          have hb:(x==b)=false:=by simp only[beq_eq_false_iff_ne,ne_eq];rintro rfl;rw[hx]at hh;cases hh.2
          have hcc:(x==c)=false:=by simp only[beq_eq_false_iff_ne,ne_eq];rintro rfl;exact h37 hc
          rw[List.contains_cons,List.contains_cons,List.contains_cons,ha,hb,hcc,ih];simp
        · rw[if_neg hh]at h;cases h
    · simp only[Option.map_eq_some_iff]at h
      obtain⟨vs,hv,rfl⟩:=h
      rw[List.contains_cons,Zk x hx h37 k t vs hv,List.any_cons]
      congr 1
      simp only[Bool.not_false,Bool.true_and]
      exact Bool.beq_comm
theorem AHe (f:UInt8→Bool) (hf: ∀c,Ke c=true→f c=true) (h37:f 37=true): ∀(k:Nat) (t:List UInt8) (us:List (Bool×UInt8)),un k t=some us→t.all f=us.all fun u=>u.1||f u.2
  |0,_,_,h=>by cases h
  |k+1,[],us,h=>by rw[un]at h;cases h;rfl
  | k+1,c::t,us,h=>by
    rw[un]at h
    split at h
    · rename_i hc
      match t,h with
      |[],h=>cases h
      |[_],h=>cases h
      | a::b::r,h=>
        simp only[IW]at h
        by_cases hh:(Ke a&&Ke b)=true
        · rw[if_pos hh]at h
          simp only[Option.map_eq_some_iff]at h
          obtain⟨vs,hv,rfl⟩:=h
          have ih:=AHe f hf h37 k r vs hv
          rw[Bool.and_eq_true]at hh
          rw[List.all_cons,List.all_cons,List.all_cons,hf a hh.1,hf b hh.2,hc,h37,ih];simp
        · rw[if_neg hh]at h;cases h
    · simp only[Option.map_eq_some_iff]at h
      obtain⟨vs,hv,rfl⟩:=h
      rw[List.all_cons,AHe f hf h37 k t vs hv,List.all_cons];simp
end
end Go.VM
namespace Go.VM
section
variable{N:Nat}
def Dk (c:UInt8):Bool:=JP c||(FE c||([46,45,95]:List UInt8).contains c)
theorem Vw (c:UInt8):Iq N (AL c)=some (Dk c):=by
  unfold Iq Dk
  rw[OT,Option.bind_some,Od,Option.bind_some,RO c _ (by decide),Option.bind_some]
  cases JP c<;>cases FE c<;>rfl
theorem PP (c:UInt8):(C8 c=(Dk c||c==126))∧(Dk c=true→c≠37∧c≠58∧c≠126)∧(Ke c=true→Dk c=true):=by
  have key:=Be (f:=fun n=>(C8 (UInt8.ofNat n)==(Dk (UInt8.ofNat n)||UInt8.ofNat n==126))&&((!Dk (UInt8.ofNat n))||(decide (UInt8.ofNat n≠37)&&decide (UInt8.ofNat n≠58)&&decide (UInt8.ofNat n≠126)))&&((!Ke (UInt8.ofNat n))||Dk (UInt8.ofNat n))) (g:=fun _=>true) (by kernel_rfl) c
  simp only[UInt8.ofNat_toNat,Bool.and_eq_true,Bool.or_eq_true,Bool.not_eq_true',beq_iff_eq,decide_eq_true_eq]at key
  obtain⟨⟨k1,k2⟩,k3⟩:=key
  refine⟨k1,fun h=>?_,fun h=>?_⟩
  · rcases k2 with k|⟨⟨a,b⟩,d⟩
    · rw[h]at k;cases k
    · exact⟨a,b,d⟩
  · rcases k3 with k|k
    · rw[h]at k;cases k
    · exact k
def E9 (b:UInt8):List UInt8:=if Dk b=true then [b]else IC b
theorem JL (b:UInt8):(E9 b).length≤3∧1≤(E9 b).length:=by unfold E9;split<;>simp[IC]
def AEk:UInt8→List UInt8:=R4 [37,55,69] 126
theorem AMj (b:UInt8):(IC b).flatMap AEk=IC b:=by
  have key:=Be (f:=fun n=>decide (([37,NN (n / 16),NN (n % 16)]:List UInt8).flatMap AEk=[37,NN (n / 16),NN (n % 16)])) (g:=fun _=>true) (by kernel_rfl) b
  simp only[decide_eq_true_eq]at key
  exact key
theorem AIC (b:UInt8):(if C8 b=true then [b]else IC b).flatMap AEk=E9 b:=by
  obtain⟨k1,k2,_⟩:=PP b
  unfold E9
  rw[k1]
  cases hp:Dk b
  · by_cases h:b=126
    · subst h;rfl
    · rw[show(b==126)=false by simpa using h,Bool.or_false,if_neg (by decide),AMj]
  · obtain⟨_,_,h3⟩:=k2 hp
    rw[Bool.true_or,if_pos rfl]
    simp[AEk,R4,h3]
theorem ANn (b:UInt8):(Hy [] b).flatMap AEk=E9 b:=by
  rw[←AIC b]
  unfold Hy
  simp
def guC (u:Bool×UInt8):List UInt8:=if u.1=true then E9 u.2 else [u.2]
def okD (u:Bool×UInt8):Bool:=u.1||(Dk u.2||u.2==58)
theorem ATQ{u:Bool×UInt8} (h:okD u=true):(nuC u).flatMap AEk=guC u:=by
  obtain⟨e,c⟩:=u
  unfold nuC guC
  cases e
  · simp only[Bool.false_eq_true,if_false]
    have hc:c≠126:=by
      rintro rfl
      simp only[okD,Bool.false_or]at h
      exact absurd h (by decide)
    simp[AEk,R4,hc]
  · simp only[if_true];exact AIC c
theorem AKj{us:List (Bool×UInt8)} (h:us.all okD=true):(us.flatMap nuC).flatMap AEk=us.flatMap guC:=by
  induction us with
  |nil=>rfl
  | cons u us ih=>
    rw[List.all_cons,Bool.and_eq_true]at h
    rw[List.flatMap_cons,List.flatMap_append,ATQ h.1,ih h.2,List.flatMap_cons]
def Kz (s:List UInt8):List UInt8×Int:=
  match unS s with
  |none=>([],2)
  |some us=>if us.all okD=true then(us.flatMap guC,0)else([],1)
theorem AUY (us:List (Bool×UInt8)):(us.all (okN [58])&&!(us.any fun u=>!u.1&&u.2==126))=us.all okD:=by
  induction us with
  |nil=>rfl
  | cons u us ih=>
    rw[List.all_cons,List.any_cons,List.all_cons,←ih]
    obtain⟨e,c⟩:=u
    obtain⟨k1,k2,_⟩:=PP c
    have hu:(okN [58] (e,c)&&!(!e&&c==126))=okD (e,c):=by
      unfold okN okD
      cases e
      · simp only[Bool.false_or,Bool.not_false,Bool.true_and]
        rw[k1,show([58]:List UInt8).contains c=(c==58) by simp[List.contains_cons];rfl]
        by_cases h126:c=126
        · subst h126;rfl
        · rw[show(c==126)=false by simpa using h126];simp
      · simp
    rw[←hu]
    cases okN [58] (e,c)<;>cases (!e&&c==126)<;>cases us.all (okN [58])<;>cases (us.any fun u=>!u.1&&u.2==126)<;>rfl
theorem AQS (s:List UInt8) (hb:s.length≤16000) (hN:20000≤N): ∃v,IB N s=some (v,(Kz s).2)∧((Kz s).2=0→v=(Kz s).1):=by
  unfold IB
  have hd:Dw N s=OE N s []:=by unfold Dw;rw[if_neg (by omega)]
  have hn:CR N s [58]=Np [58] N s []:=by unfold CR;rw[if_neg (by omega)]
  have hun:un N s=unS s:=AFs (by omega)
  rw[IE _ _ hN,Option.bind_some,Kw _ hN,Option.bind_some,hd,hn,Qu N s [] (by omega),hun]
  dsimp only[AJ]
  unfold Kz
  cases hu:unS s with
  |none=>exact⟨[],rfl,fun _=>rfl⟩
  | some us=>
    simp only
    rw[if_neg (by decide),WQ [58] N s [] us (by omega) (by rw[hun];exact hu),ADt,Option.bind_some]
    have h126:s.contains 126=us.any fun u=>!u.1&&u.2==126:=Zk 126 (by decide) (by decide) _ s us hu
    have hk:=AUY us
    rw[←h126]at hk
    have hlen:=G6 (N:=N) s [58]
    rw[hn,WQ [58] N s [] us (by omega) (by rw[hun];exact hu)]at hlen
    cases h1:us.all (okN [58])
    · rw[h1,Bool.false_and]at hk
      rw[←hk]
      simp only[Bool.false_eq_true,if_false]
      rw[if_neg (by decide),Lf _ _ _ rfl (by simp),Option.bind_some]
      exact⟨_,rfl,fun h=>by cases h⟩
    · rw[h1,Bool.true_and]at hk
      rw[h1]at hlen
      simp only[if_true,List.nil_append]at hlen⊢
      rw[if_pos (by decide)]
      cases h2:s.contains 126
      · rw[h2]at hk
        rw[←hk]
        simp only[Bool.not_false,Bool.false_eq_true,if_false,if_true]
        rw[Lf _ _ _ rfl (by omega),Option.bind_some]
        exact⟨_,rfl,fun _=>AKj hk.symm⟩
      · rw[h2]at hk
        rw[←hk]
        simp only[Bool.not_true,Bool.false_eq_true,if_false,if_true]
        rw[Lf _ _ _ rfl (by omega),Option.bind_some]
        exact⟨_,rfl,fun h=>by cases h⟩
end
end Go.VM
namespace Go.VM
section
variable{N:Nat}
theorem AMr{p:UInt8→Bool}{x:UInt8}: ∀ {l:List UInt8},x∈l.takeWhile p→p x=true
  |[],h=>by simp at h
  | c::l,h=>by
    rw[List.takeWhile_cons]at h
    split at h
    · rename_i hc
      rcases List.mem_cons.1 h with rfl|h
      · exact hc
      · exact AMr h
    · simp at h
def QE (c:UInt8):Bool:=Dk c||c==37
theorem AF6: ∀(k:Nat) (t:List UInt8) (us:List (Bool×UInt8)),un k t=some us→ ∀u,u∈us→u.1=true∨u.2≠37
  |0,_,_,h,_,_=>by cases h
  |k+1,[],us,h,u,hu=>by rw[un]at h;cases h;cases hu
  | k+1,c::t,us,h,u,hu=>by
    rw[un]at h
    split at h
    · cases he:IW t with
      |none=>rw[he]at h;cases h
      | some x=>
        rw[he]at h
        simp only[Option.map_eq_some_iff]at h
        obtain⟨vs,hv,rfl⟩:=h
        rcases List.mem_cons.1 hu with rfl|hu
        · exact .inl rfl
        · exact AF6 k _ vs hv u hu
    · rename_i hc
      simp only[Option.map_eq_some_iff]at h
      obtain⟨vs,hv,rfl⟩:=h
      rcases List.mem_cons.1 hu with rfl|hu
      · exact .inr hc
      · exact AF6 k t vs hv u hu
theorem ASy: ∀ {t:List UInt8}{us:List (Bool×UInt8)},unS t=some us→(us=[]↔t=[])
  | [],us,h=>by
    have:unS []=some []:=rfl
    rw[this]at h;cases h;simp
  | c::t,us,h=>by
    unfold unS at h
    rw[un]at h
    constructor
    · rintro rfl
      split at h
      · cases he:IW t with
        |none=>rw[he]at h;cases h
        |some x=>rw[he]at h;simp at h
      · simp at h
    · intro h;cases h
theorem PH{p:List UInt8} (hb:p.length≤16000) (hN:20000≤N):Dw N p=(match unS p with|some us=>(us.map (·.2),0)|none=>([],2)):=by
  unfold Dw
  rw[if_neg (by omega),Qu N p [] (by omega),AFs (by omega)]
  cases unS p<;>simp
def IM (N:Nat) (p:List UInt8):List UInt8:=(Dw N p).1.flatMap E9
def jn (N:Nat):Bool→List (List UInt8)→List UInt8
  |_,[]=>[]
  |true,p::ps=>IM N p++jn N false ps
  |false,p::ps=>58::(IM N p++jn N false ps)
def Om (N:Nat) (p:List UInt8):Bool:=(Dw N p).2==0
theorem AEc{p:List UInt8}{u:List (Bool×UInt8)} (hb:p.length≤16000) (hN:20000≤N) (h58:p.contains 58=false) (hu:unS p=some u):
    Om N p=true∧p.all QE=u.all okD∧(u.all okD=true→IM N p=u.flatMap guC):=by
  have hlit:=AF6 _ p u hu
  have h58':=Zk 58 (by decide) (by decide) _ p u hu
  rw[h58]at h58'
  have hno: ∀v,v∈u→v.1=true∨(v.2≠37∧v.2≠58):=fun v hv=>by
    rcases hlit v hv with h|h
    · exact .inl h
    · have:=List.any_eq_false.1 h58'.symm v hv
      cases hv1:v.1
      · refine .inr ⟨h,fun e=>?_⟩
        rw[hv1,e]at this;exact this rfl
      · exact .inl rfl
  refine⟨by unfold Om;rw[PH hb hN,hu];rfl,?_,fun hok=>?_⟩
  · rw[AHe QE (fun c hc=>by unfold QE;rw[(PP c).2.2 hc];rfl) (by decide) _ p u hu]
    clear hu h58'
    induction u with
    |nil=>rfl
    | cons v u ih=>
      rw[List.all_cons,List.all_cons,ih (fun w hw=>hlit w (by simp[hw])) (fun w hw=>hno w (by simp[hw]))]
      congr 1
      unfold okD QE
      rcases hno v (by simp)with h|⟨h1,h2⟩
      · rw[h];rfl
      · rw[show(v.2==37)=false by simpa using h1,show(v.2==58)=false by simpa using h2]
  · unfold IM
    rw[PH hb hN,hu]
    clear hu h58' hlit
    induction u with
    |nil=>rfl
    | cons v u ih=>
      rw[List.all_cons,Bool.and_eq_true]at hok
      have ih':=ih (fun w hw=>hno w (by simp[hw])) hok.2
      simp only[List.map_cons,List.flatMap_cons]at ih'⊢
      rw[ih']
      congr 1
      unfold guC
      rcases hno v (by simp)with h|⟨h1,h2⟩
      · rw[h];rfl
      · cases hv1:v.1
        · have hpl:Dk v.2=true:=by
            have:=hok.1
            unfold okD at this
            rw[hv1,show(v.2==58)=false by simpa using h2,Bool.or_false,Bool.false_or]at this
            exact this
          rw[if_neg (by decide)]
          unfold E9;rw[if_pos hpl]
        · rfl
theorem AAW (hN:20000≤N): ∀(n:Nat) (l:List UInt8),l.length≤n→l.length≤16000→
    (unS l=none→(AU 58 l).all (Om N)=false)∧(∀us,unS l=some us→(AU 58 l).all (Om N)=true∧((AU 58 l).all fun p=>p.all QE)=us.all okD∧(us.all okD=true→jn N true (AU 58 l)=us.flatMap guC)):=by
  intro n
  induction n with
  | zero=>
    intro l hl _
    have:l=[]:=List.eq_nil_of_length_eq_zero (by omega)
    subst this
    refine⟨fun h=>(by cases h),fun us h=>?_⟩
    have e:unS []=some []:=rfl
    rw[e]at h;cases h
    refine⟨?_,rfl,fun _=>?_⟩
    · simp only[AU,List.all_cons,List.all_nil,Bool.and_true]
      unfold Om;rw[PH (by simp) hN];rfl
    · simp only[AU,jn,List.append_nil,IM]
      rw[PH (by simp) hN];rfl
  | succ n ih=>
    intro l hl hb
    cases hc:l.contains 58
    · have hs:AU 58 l=[l]:=by rw[Ie,Mk hc];rfl
      rw[hs]
      refine⟨fun h=>?_,fun us h=>?_⟩
      · simp only[List.all_cons,List.all_nil,Bool.and_true]
        unfold Om;rw[PH hb hN,h];rfl
      · obtain⟨r1,r2,r3⟩:=AEc hb hN hc h
        refine⟨by simp[r1],by simpa using r2,fun hk=>?_⟩
        simp only[jn,List.append_nil];exact r3 hk
    · have hlt:=JG hc
      have hs:AU 58 l=(Aa 58 l).1::AU 58 (Aa 58 l).2.1:=by rw[Ie 58 l,if_pos (by rw[Oh,hc])]
      have he:l=(Aa 58 l).1++58::(Aa 58 l).2.1:=by
        rw[EN hc]
        have e:=List.takeWhile_append_dropWhile (p:=(· !=(58:UInt8))) (l:=l)
        have hd:l.dropWhile (· !=(58:UInt8))=58::(l.dropWhile (· !=(58:UInt8))).drop 1:=by
          cases hq:l.dropWhile (· !=(58:UInt8))with
          |nil=>rw[hq,List.append_nil]at e;rw[e]at hlt;omega
          | cons y ys=>
            have:=List.head?_dropWhile_not (fun z=>z !=(58:UInt8)) l
            rw[hq]at this
            simp at this
            simp[this]
        conv=>lhs;rw[←e,hd]
      have hp:(Aa 58 l).1.contains 58=false:=by
        rw[EN hc]
        cases h:(l.takeWhile (· !=(58:UInt8))).contains 58
        · rfl
        · have hm:(58:UInt8)∈l.takeWhile (· !=(58:UInt8)):=by simpa using h
          have:=AMr hm
          simp at this
      have hp': ∀x,x∈(Aa 58 l).1→x≠58:=fun x hx e=>by
        subst e
        have:(Aa 58 l).1.contains 58=true:=by simpa using hx
        rw[hp]at this;cases this
      generalize (Aa 58 l).1=p at *
      generalize (Aa 58 l).2.1=r at *
      have hlen:=congrArg List.length he
      simp only[List.length_append,List.length_cons]at hlen
      have hun:unS l=(unS p).bind fun u=>(unS r).map fun v=>u++(false,58)::v:=by
        unfold unS
        conv=>lhs;rw[he]
        exact Sr _ p r (by simp only[List.length_append,List.length_cons];omega) hp'
      obtain⟨i1,i2⟩:=ih r (by omega) (by omega)
      rw[hs,List.all_cons,List.all_cons]
      refine⟨fun h=>?_,fun us h=>?_⟩
      · rw[hun]at h
        cases hu:unS p with
        | none=>
          have:Om N p=false:=by unfold Om;rw[PH (by omega) hN,hu];rfl
          rw[this];rfl
        | some u=>
          rw[hu]at h
          simp only[Option.bind_some,Option.map_eq_none_iff]at h
          rw[i1 h,Bool.and_false]
      · rw [hun]at h
        cases hu:unS p with
        |none=>rw[hu]at h;cases h
        | some u=>
          rw[hu]at h
          simp only[Option.bind_some,Option.map_eq_some_iff]at h
          obtain⟨v,hv,rfl⟩:=h
          obtain⟨j1,j2,j3⟩:=i2 v hv
          obtain⟨r1,r2,r3⟩:=AEc (by omega) hN hp hu
          have h58:okD (false,58)=true:=rfl
          refine⟨by rw[r1,j1];rfl,?_,fun hk=>?_⟩
          · rw[r2,j2,List.all_append,List.all_cons,h58,Bool.true_and]
          · rw[List.all_append,List.all_cons,h58,Bool.true_and,Bool.and_eq_true]at hk
            rw[List.flatMap_append,List.flatMap_cons,←r3 hk.1,←j3 hk.2]
            cases hsr:AU 58 r with
            |nil=>exact absurd hsr (Br 58 r)
            |cons q qs=>simp only[jn];rfl
end
end Go.VM
namespace Go.VM
section
variable{N:Nat}
def mB (c:UInt8):Bool:=FE c||(!decide (AL c<97)&&!decide (AL c>122))
theorem Sl (k:Unit→Option Bool): ∀l:List UInt8,Dy N k l=if l.all mB=true then k ()else some false
  |[]=>by rw[Dy];rfl
  | c::l=>by
    rw[Dy]
    dsimp only[AJ]
    rw[Pw,Option.bind_some,Sl k l,List.all_cons]
    unfold mB
    cases FE c<;>cases decide (AL c<97)<;>cases decide (AL c>122)<;>simp
theorem TK (k:Unit→Option Bool): ∀l:List UInt8,Cj N k l=if l.all mB=true then k ()else some false
  |[]=>by rw[Cj];rfl
  | c::l=>by
    rw[Cj]
    dsimp only[AJ]
    rw[Od,Option.bind_some,TK k l,List.all_cons]
    unfold mB
    cases FE c<;>cases decide (AL c<97)<;>cases decide (AL c>122)<;>simp
def Sk (l:List UInt8):Bool:=l.all mB&&!(l==[])
theorem AMp (l:List UInt8) (hb:l.length≤1000000):LC N l=some (Sk l):=by
  unfold LC Sk
  rw[AJ,BL (by omega),Sl]
  cases l.all mB<;>simp
theorem AMD (l:List UInt8) (hb:l.length≤1000000):JS N l=some (Sk l):=by
  unfold JS Sk
  rw[AJ,BL (by omega),TK]
  cases l.all mB<;>simp
theorem ARJ (l:List UInt8) (c:UInt8) (hb:l.length≤1000000):strings_HasSuffix N l [c]=some (l.getLast?==some c):=by
  unfold strings_HasSuffix Cw
  rcases List.eq_nil_or_concat l with rfl|⟨l,x,rfl⟩
  · rfl
  · rw[List.concat_eq_append]at *
    have hb':l.length≤1000000:=by simp at hb;omega
    rw[if_pos (by simp;omega),show wr .i64 (((l++[x]).length:Int)-(([c]:List UInt8).length:Int))=((l.length:Nat):Int) by rw[BH (by simp only[List.length_append,List.length_cons,List.length_nil];omega)];simp,Bi (by simp),Option.bind_some,Option.bind_some,List.drop_left]
    simp
def IK:ApiDID:=⟨[],[]⟩
def XB (l:List UInt8):Bool:=l==[]||l.getLast?==some 58
def Ib (s:List UInt8):ApiDID×Int:=
  if s.length>4096 then(IK,5)
  else if preB [100,105,100,58] s=false then(IK,60)
  else if(Aa 58 (s.drop 4)).2.2=false then(IK,6)
  else if Sk (Aa 58 (s.drop 4)).1=false then(IK,100)
  else if((Kz (Aa 58 (s.drop 4)).2.1).2 !=0)=true then(IK,(Kz (Aa 58 (s.drop 4)).2.1).2)
  else if XB (Kz (Aa 58 (s.drop 4)).2.1).1=true then(IK,3)
  else(⟨(Aa 58 (s.drop 4)).1,(Kz (Aa 58 (s.drop 4)).2.1).1⟩,0)
theorem AR3 (u:Bool×UInt8):(guC u).length≤3:=by
  have:=JL u.2
  unfold guC;split<;>simp<;>omega
theorem AHV: ∀(k:Nat) (t:List UInt8) (us:List (Bool×UInt8)),un k t=some us→us.length≤t.length
  |0,_,_,h=>by cases h
  |k+1,[],us,h=>by rw[un]at h;cases h;simp
  | k+1,c::t,us,h=>by
    rw[un]at h
    split at h
    · cases he:IW t with
      |none=>rw[he]at h;cases h
      | some x=>
        rw[he]at h
        simp only[Option.map_eq_some_iff]at h
        obtain⟨vs,hv,rfl⟩:=h
        have:=AHV k _ vs hv
        simp only[List.length_drop,List.length_cons]at *;omega
    · simp only[Option.map_eq_some_iff]at h
      obtain⟨vs,hv,rfl⟩:=h
      have:=AHV k _ vs hv
      simp only[List.length_cons];omega
theorem MF{α:Type}{f:α→List UInt8}{n:Nat} (h: ∀x,(f x).length≤n): ∀l:List α,(l.flatMap f).length≤n * l.length
  |[]=>by simp
  | x::l=>by
    have:=MF h l
    have:=h x
    rw[List.flatMap_cons,List.length_append,List.length_cons,Nat.mul_succ];omega
theorem AEU (s:List UInt8):(Kz s).1.length≤3 * s.length:=by
  unfold Kz
  cases hu:unS s with
  |none=>simp
  | some us=>
    simp only
    split
    · have h1:=MF AR3 us
      have h2:=AHV _ s us hu
      simp only;omega
    · simp
theorem AIF (s:List UInt8) (hb:s.length≤1000000) (hN:20000≤N):Hl N s=some (Ib s):=by
  unfold Hl Ib
  by_cases h1:s.length>4096
  · rw[if_pos (by simp;omega),if_pos h1];rfl
  rw[if_neg (by simp;omega),if_neg h1,AIR,Option.bind_some]
  cases hp:preB [100,105,100,58] s
  · rfl
  have hl:=FD 58 (s.drop 4)
  rw[List.length_drop]at hl
  simp only[if_true,List.length_cons,List.length_nil,Nat.zero_add,Nat.reduceAdd]
  rw[if_neg (by decide: ¬(true=false)),Ms 58 _ (by rw[List.length_drop];omega),Option.bind_some]
  cases hc:(Aa 58 (s.drop 4)).2.2
  · rfl
  simp only[if_true]
  rw[if_neg (by decide: ¬(true=false)),AMp _ (by omega),Option.bind_some]
  cases hm:Sk (Aa 58 (s.drop 4)).1
  · rfl
  simp only[if_true]
  have hcl:=AEU (Aa 58 (s.drop 4)).2.1
  obtain⟨v,e1,e2⟩:=AQS (N:=N) (Aa 58 (s.drop 4)).2.1 (by omega) hN
  rw[if_neg (by decide: ¬(true=false)),e1,Option.bind_some]
  by_cases h5:((Kz (Aa 58 (s.drop 4)).2.1).2 !=0)=true
  · rw[if_pos h5,if_pos h5];rfl
  rw[if_neg h5,if_neg h5]
  have hv:=e2 (by simpa using h5)
  subst hv
  dsimp only[AJ]
  rw[ARJ _ _ (by omega),Option.bind_some]
  unfold XB
  cases ((Kz (Aa 58 (s.drop 4)).2.1).1==[])<;>cases ((Kz (Aa 58 (s.drop 4)).2.1).1.getLast?==some 58)<;>rfl
theorem VT{l:List UInt8} (hb:l.length≤1000000) (k:List UInt8→Option (List UInt8)): ∀(t pre out:List UInt8),l=pre++t→out.length≤3 * pre.length→Bv N l k t (pre.length:Int) out=k (out++t.flatMap E9)
  |[],pre,out,h,_=>by rw[Bv];simp
  | c::t,pre,out,h,ho=>by
    have hl:=congrArg List.length h
    simp only[List.length_append,List.length_cons]at hl
    have hsub:sub l (pre.length:Int) ((pre.length:Int)+1)=some [c]:=by
      rw[show(pre.length:Int)+1=((pre.length+1:Nat):Int) by omega,CV l _ _ (by omega) (by omega),h,List.drop_left]
      simp
    have hel:=JL c
    have nxt: ∀x:List UInt8,x=E9 c→Bv N l k t ((pre.length:Int)+1) (out++x)=k (out++(c::t).flatMap E9):=fun x hx=>by
      have:=VT hb k t (pre++[c]) (out++x) (by rw[h];simp) (by rw[hx];simp only[List.length_append,List.length_cons,List.length_nil];omega)
      rw[List.flatMap_cons,←List.append_assoc,←hx,←this]
      congr 1;simp
    rw[Bv]
    dsimp only[AJ]
    rw[Vw,Option.bind_some,hsub,Option.bind_some,OA,Option.bind_some]
    cases hp:Dk c
    · rw[if_neg (by decide),BL (by simp[IC];omega)]
      exact nxt _ (by unfold E9;rw[hp];rfl)
    · rw[if_pos rfl,BL (by simp;omega)]
      exact nxt _ (by unfold E9;rw[hp];rfl)
theorem AE0 (l:List UInt8) (hb:l.length≤1000000):GX N l=some (l.flatMap E9):=by
  unfold GX
  rw[AJ,BL (by omega)]
  have:=VT (N:=N) hb (fun j1=>some j1) l [] [] rfl (by simp)
  simpa using this
theorem rd1 (hN:20000≤N) (k:Unit→Option (ApiDID×Int)): ∀ps:List (List UInt8),CB N k ps=if ps.all (Om N)=true then k ()else some (IK,2)
  |[]=>by rw[CB];rfl
  | p::ps=>by
    rw[CB,Jg _ hN,Option.bind_some,rd1 hN k ps,List.all_cons]
    unfold Om
    cases h:((Dw N p).2==0)
    · rw[if_pos (by simpa[bne]using h)];rfl
    · rw[if_neg (by simpa[bne]using h),Bool.true_and]
theorem rd3 (k:Unit→Option (ApiDID×Int)): ∀l:List UInt8,Bz N k l=if l.all QE=true then k ()else some (IK,1)
  |[]=>by rw[Bz];rfl
  | c::l=>by
    rw[Bz]
    dsimp only[AJ]
    rw[Vw,Option.bind_some,rd3 k l,List.all_cons,bne,Lv]
    unfold QE
    have e:(c==37)=decide (c=37):=rfl
    rw[e]
    cases Dk c<;>cases decide (c=37)<;>simp[IK]
theorem AM6 (p:List UInt8):(IM N p).length≤3 * p.length:=by
  have h1:=MF (fun x=>(JL x).1) (Dw N p).1
  have h2:=Fb (N:=N) p
  unfold IM;omega
theorem rd2 (hN:20000≤N) (k:List UInt8→Option (ApiDID×Int)): ∀(ps:List (List UInt8)) (i:Int) (acc:List UInt8),0≤i→(∀p,p∈ps→p.length≤20000)→acc.length+60001 * ps.length≤1000000000→
    BR N k ps i acc=if(ps.all fun p=>p.all QE)=true then k (acc++jn N (decide (i=0)) ps)else some (IK,1)
  |[],i,acc,_,_,_=>by rw[BR];cases decide (i=0)<;>simp[jn]
  | p::ps,i,acc,hi,hp,ha=>by
    have hpl:=hp p (by simp)
    have hpt:=AM6 (N:=N) p
    simp only[List.length_cons,Nat.mul_succ]at ha
    have ih:=fun acc' h'=>rd2 hN k ps (i+1) acc' (by omega) (fun q hq=>hp q (by simp[hq])) h'
    have hd1:decide (i+1=0)=false:=decide_eq_false (by omega)
    rw[hd1]at ih
    rw[BR]
    dsimp only[AJ]
    rw[BL (by omega),rd3,Jg _ hN,Option.bind_some,List.all_cons]
    cases h1:p.all QE
    · rfl
    rw[if_pos rfl,Bool.true_and]
    have hdl:=Fb (N:=N) p
    rw[AE0 _ (by omega),Option.bind_some]
    change (if decide (i>0)=true then grd _ (grd (AV ((acc++[58]).length+(IM N p).length)) (BR N k ps (i+1) (acc++[58]++IM N p)))else grd (AV (acc.length+(IM N p).length)) (BR N k ps (i+1) (acc++IM N p)))=_
    by_cases h0:i=0
    · rw[if_neg (by simp;omega),decide_eq_true h0,BL (by omega),ih _ (by simp only[List.length_append];omega)]
      simp only[jn,List.append_assoc]
    · rw[if_pos (by simp;omega),decide_eq_false h0,BL (by simp;omega),BL (by simp;omega),ih _ (by simp only[List.length_append,List.length_cons,List.length_nil];omega)]
      simp only[jn,List.append_assoc,List.cons_append,List.nil_append]
theorem APF (b:UInt8):(E9 b).getLast?≠some 58:=by
  have key:=Be (f:=fun n=>decide ((E9 (UInt8.ofNat n)).getLast?≠some 58)) (g:=fun _=>true) (by kernel_rfl) b
  simp only[UInt8.ofNat_toNat,decide_eq_true_eq]at key
  exact key
theorem Vp (p:List UInt8):(IM N p).getLast?≠some 58:=by
  unfold IM
  generalize (Dw N p).1=d
  rcases List.eq_nil_or_concat d with rfl|⟨d,x,rfl⟩
  · simp
  · rw[List.concat_eq_append]
    have h1:=(JL x).2
    rw[List.flatMap_append,List.flatMap_singleton,List.getLast?_append]
    cases h:(E9 x).getLast? with
    |none=>rw[List.getLast?_eq_none_iff]at h;rw[h]at h1;simp at h1
    |some y=>simp only[Option.some_or];rw[←h];exact APF x
theorem AHY: ∀(ps:List (List UInt8)) (f:Bool) (hne:ps≠ []),XB (jn N f ps)=(IM N (ps.getLast hne)==[])
  |[],_,h=>absurd rfl h
  | [p],true,_=>by
    have:=Vp (N:=N) p
    simp only[jn,List.append_nil,List.getLast_singleton,XB]
    rw[show((IM N p).getLast?==some 58)=false by simpa using this,Bool.or_false]
  | [p],false,_=>by
    have:=Vp (N:=N) p
    simp only[jn,List.append_nil,List.getLast_singleton,XB]
    cases hq:IM N p with
    |nil=>rfl
    | cons y ys=>
      rw[hq]at this
      simp only[List.getLast?_cons_cons]
      rw[show((y::ys).getLast?==some 58)=false by simpa using this];rfl
  | p::q::ps,f,h=>by
    have ih:=AHY (q::ps) false (by simp)
    rw[List.getLast_cons (by simp),←ih]
    obtain⟨z,zs,hz⟩: ∃z zs,jn N false (q::ps)=z::zs:=⟨58,IM N q++jn N false ps,rfl⟩
    cases f
    · rw[show jn N false (p::q::ps)=58::(IM N p++jn N false (q::ps))from rfl,hz]
      unfold XB
      simp[List.getLast?_append,List.getLast?_cons]
    · rw[show jn N true (p::q::ps)=IM N p++jn N false (q::ps)from rfl,hz]
      unfold XB
      simp[List.getLast?_append,List.getLast?_cons]
end
end Go.VM
