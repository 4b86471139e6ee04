import Derived.Test.YtjgdhjpafjpjgaaGreatDoorL4
set_option linter.unusedVariables false
set_option linter.unusedSimpArgs false
namespace Go.VM
section
variable{N:Nat}
theorem AFJ (c:UInt8): ∀(n:Nat) (l:List UInt8),l.length≤n→((AP c l).map List.length).sum+(AP c l).length=l.length+1:=by
  intro n
  induction n with
  | zero=>
    intro l hl
    have:l=[]:=List.eq_nil_of_length_eq_zero (by omega)
    subst this;rfl
  | succ n ih=>
    intro l hl
    cases l with
    |nil=>rfl
    | cons x t=>
      simp only[List.length_cons]at hl
      have:=ih t (by omega)
      rw[AP]
      split
      · simp only[List.map_cons,List.sum_cons,List.length_cons,List.length_nil];omega
      · cases hs:AP c t with
        |nil=>exact absurd hs (Bo c t)
        | cons p ps=>
          rw[hs]at this
          simp only[List.map_cons,List.sum_cons,List.length_cons]at this⊢;omega
theorem VJ{l:List (List UInt8)} (hne:l≠ []) (hb:l.length≤1000000):idx l (wr .i64 ((l.length:Int)-1))=some (l.getLast hne):=by
  have:0<l.length:=List.length_pos_iff.2 hne
  rw[show wr .i64 ((l.length:Int)-1)=((l.length-1:Nat):Int) by rw[BF (by omega)];omega,Io,←List.getLast?_eq_getElem?,List.getLast?_eq_some_getLast hne]
theorem AD9{p:List UInt8} (hb:p.length≤16000) (hN:20000≤N) (hk:OD N p=true):(Hy N p==[])=(p==[]):=by
  unfold OD at hk
  rw[OY hb hN]at hk
  cases hu:unS p with
  |none=>rw[hu]at hk;exact absurd hk (by decide)
  | some u=>
    have hn:=AS0 hu
    unfold Hy
    rw[OY hb hN,hu]
    cases u with
    |nil=>have:=hn.1 rfl;subst this;rfl
    | cons v u=>
      have hp:p≠ []:=fun e=>by have:=hn.2 e;cases this
      have h1:=(I7 v.2).2
      cases hq:Em v.2 with
      |nil=>rw[hq]at h1;simp at h1
      | cons y ys=>
        simp only[List.map_cons,List.flatMap_cons,hq]
        cases p with
        |nil=>exact absurd rfl hp
        |cons _ _=>rfl
theorem AHj (s:List UInt8) (hb:s.length≤1000000) (hN:20000≤N):FY N s=some (H8 s):=by
  unfold FY H8
  by_cases h1:s.length>4096
  · rw[if_pos (by simp;omega),if_pos h1];rfl
  rw[if_neg (by simp;omega),if_neg h1,Ns,Option.bind_some]
  cases hp:preB [100,105,100,58] s
  · rfl
  have h4:=KE hp
  simp only[List.length_cons,List.length_nil]at h4
  have hl:=Es 58 (s.drop 4)
  have hdl:(s.drop 4).length≤1000000:=by rw[List.length_drop];omega
  rw[List.length_drop]at hl
  simp only[if_true]
  rw[if_neg (by decide: ¬(true=false)),show sub s 4 (s.length:Int)=some (s.drop 4)from BZ (n:=4) (by omega),Option.bind_some,APK 58 _ hdl,Option.bind_some,Pw,N7]
  cases hc:(s.drop 4).contains 58
  · rfl
  obtain⟨s1,s2⟩:=PV hc hdl
  simp only[Bool.not_true,Bool.false_eq_true,if_false]
  rw[if_neg (by decide: ¬(true=false)),s1,Option.bind_some,AMF _ (by omega),Option.bind_some]
  cases hm:Sj (AY 58 (s.drop 4)).1
  · rfl
  simp only[if_true]
  rw[if_neg (by decide: ¬(true=false)),s2,Option.bind_some,show(58:Int)=AJ 58 from rfl,KO _ 58 (by omega),Option.bind_some]
  generalize (AY 58 (s.drop 4)).1=m at *
  have hd:(AY 58 (s.drop 4)).2.1.length≤4096:=by omega
  generalize (AY 58 (s.drop 4)).2.1=d at *
  have hsl:=FD 58 d
  have hsp:=Ed 58 d
  have hne:=Bo 58 d
  obtain⟨r1,r2⟩:=VT (N:=N) hN d.length d (Nat.le_refl _) (by omega)
  dsimp only[AL]
  rw[BP (by omega),rd1 hN]
  unfold Kg
  cases hu:unS d with
  | none=>
    rw[r1 hu];rfl
  | some us=>
    obtain⟨q1,q2,q3⟩:=r2 us hu
    simp only
    rw[q1,if_pos rfl,BP (by omega),rd2 hN _ _ 0 [] (by omega) (fun p h=>by have:=hsp p h;omega) (by simp;omega),q2]
    cases hk:us.all okD
    · rfl
    simp only[if_true]
    rw[if_neg (by decide),List.nil_append]
    simp only[decide_true]
    rw[q3 hk,VJ hne (by omega),Option.bind_some]
    have hlast:OD N ((AP 58 d).getLast hne)=true:=List.all_eq_true.1 q1 _ (List.getLast_mem hne)
    have hll:((AP 58 d).getLast hne).length≤16000:=by have:=hsp _ (List.getLast_mem hne);omega
    have he:=AGa (N:=N) (AP 58 d) true hne
    rw[q3 hk,AD9 hll hN hlast]at he
    rw[he]
    cases ((AP 58 d).getLast hne==[])<;>rfl
def Gj (d:ApiDID):List UInt8:=(([100,105,100,58]++d.method)++[58])++d.iD
theorem Sr (d:ApiDID) (h:d.method.length≤1000000∧d.iD.length≤1000000):Dn N d=some (Gj d):=by
  unfold Dn Gj
  rw[BP (by simp;omega),BP (by simp;omega),BP (by simp;omega)]
theorem Sw (d:ApiDID) (h:d.method.length≤1000000∧d.iD.length≤1000000):DV N d=some (Gj d):=by
  unfold DV Gj
  rw[BP (by simp;omega),BP (by simp;omega),BP (by simp;omega)]
theorem ACs (s:List UInt8):(H8 s).1.method.length≤4096∧(H8 s).1.iD.length≤12288:=by
  have hl:=Es 58 (s.drop 4)
  have hc:=ABy (AY 58 (s.drop 4)).2.1
  rw[List.length_drop]at hl
  unfold H8
  split
  · simp[Hm]
  split
  · simp[Hm]
  split
  · simp[Hm]
  split
  · simp[Hm]
  split
  · simp[Hm]
  split
  · simp[Hm]
  · dsimp only;omega
end
end Go.VM
namespace Go.VM
section
variable{N:Nat}
def Fy:List UInt8:=[119,101,98]
def hp0:ApiHostPort:=⟨[],0⟩
def Bt (N:Nat) (d:ApiDID):ApiHostPort×Int:=
  if(d.method==Fy)=false then(hp0,100)
  else if((H8 (Gj d)).2 !=0)=true then(hp0,(H8 (Gj d)).2)
  else hpS (Dk N (AY 58 d.iD).1).1
theorem PG (i:List UInt8):preB [100,105,100,58] (Gj ⟨Fy,i⟩)=true∧AY 58 ((Gj ⟨Fy,i⟩).drop 4)=(Fy,i,true)∧(Gj ⟨Fy,i⟩).length=i.length+8:=by
  have h4:(Gj ⟨Fy,i⟩).drop 4=Fy++58::i:=rfl
  refine⟨rfl,?_,by unfold Gj;simp[Fy]⟩
  rw[h4,ED (by simp[Fy])]
  rfl
theorem ALX{i:List UInt8} (h:(H8 (Gj ⟨Fy,i⟩)).2=0):(Kg i).2=0∧i.length≤4088:=by
  obtain⟨h1,h2,h3⟩:=PG i
  unfold H8 at h
  rw[h1,h2]at h
  split at h
  · cases h
  rename_i hl
  rw[h3]at hl
  rw[if_neg (by decide)]at h
  simp only[Bool.true_eq_false,if_false]at h
  rw[if_neg (by decide)]at h
  split at h
  · rename_i hc;rw[h]at hc;exact absurd hc (by decide)
  · rename_i hc
    exact⟨by simpa using hc,by omega⟩
theorem ASB{i:List UInt8} (h:(Kg i).2=0): ∃us,unS i=some us∧us.all okD=true:=by
  unfold Kg at h
  cases hu:unS i with
  |none=>rw[hu]at h;cases h
  | some us=>
    rw[hu]at h
    simp only at h
    split at h
    · rename_i hk;exact⟨us,rfl,hk⟩
    · cases h
theorem Sg (c:UInt8) (l:List UInt8):(AP c l)[0]?=some (AY c l).1:=by
  rw[IC];split<;>rfl
theorem AJo{i:List UInt8} (h:(Kg i).2=0) (hb:i.length≤16000) (hN:20000≤N):((Dk N (AY 58 i).1).2 !=0)=false:=by
  obtain⟨us,hu,_⟩:=ASB h
  obtain⟨_,r2⟩:=VT (N:=N) hN i.length i (Nat.le_refl _) hb
  obtain⟨q1,_⟩:=r2 us hu
  have hm:(AY 58 i).1∈AP 58 i:=List.mem_of_getElem? (Sg 58 i)
  have:=List.all_eq_true.1 q1 _ hm
  unfold OD at this
  simp[bne,this]
theorem Uv (d:ApiDID) (hm:d.method.length≤4096) (hi:d.iD.length≤16000) (hN:20000≤N):Eh N d=some (Bt N d):=by
  have hc:=Es 58 d.iD
  have hdl:=FU (N:=N) (AY 58 d.iD).1
  have hfl:(Gj d).length≤100000:=by unfold Gj;simp;omega
  unfold Eh Bt
  change (if(d.method==Fy)=true then _ else _)=_
  cases hw:(d.method==Fy)
  · rfl
  rw[if_pos rfl,if_neg (by decide: ¬(true=false)),Sr d (by omega),Option.bind_some,AHb _ (by omega) hN,Option.bind_some]
  by_cases h:((H8 (Gj d)).2 !=0)=true
  · rw[if_pos h,if_pos h];rfl
  have hd:d=⟨Fy,d.iD⟩:=by
    have:=beq_iff_eq.1 hw
    cases d;simp only at this;rw[this]
  have h0:(H8 (Gj ⟨Fy,d.iD⟩)).2=0:=by rw[←hd];simpa using h
  obtain⟨k1,k2⟩:=ALX h0
  rw[if_neg h,if_neg h,MI 58 _ (by omega),Option.bind_some,Km _ hN,Option.bind_some,AJo k1 (by omega) hN,if_neg (by decide),AOk _ (by omega) (by omega),Option.bind_some]
theorem U7 (d:ApiDID) (hm:d.method.length≤4096) (hi:d.iD.length≤16000) (hN:20000≤N):
    IY N d=some (if(d.method==Fy)=false then([],hp0,100)else if((H8 (Gj d)).2 !=0)=true then([],hp0,(H8 (Gj d)).2)else(AP 58 d.iD,(Bt N d).1,(Bt N d).2)):=by
  have hc:=Es 58 d.iD
  have hdl:=FU (N:=N) (AY 58 d.iD).1
  have hfl:(Gj d).length≤100000:=by unfold Gj;simp;omega
  unfold IY
  change (if(d.method==Fy)=true then _ else _)=_
  cases hw:(d.method==Fy)
  · rfl
  rw[if_pos rfl,if_neg (by decide: ¬(true=false)),Sw d (by omega),Option.bind_some,AHj _ (by omega) hN,Option.bind_some]
  by_cases h:((H8 (Gj d)).2 !=0)=true
  · rw[if_pos h,if_pos h];rfl
  rw[if_neg h,if_neg h,show(58:Int)=AJ 58 from rfl,KO _ 58 (by omega),Option.bind_some,show(0:Int)=((0:Nat):Int)from rfl,Io,Sg,Option.bind_some,JF _ hN,Option.bind_some,AMt _ (by omega),Option.bind_some]
  unfold Bt
  rw[if_neg (by rw[hw];decide),if_neg h]
theorem AKD (d:ApiDID) (hm:d.method.length≤4096) (hi:d.iD.length≤16000) (hN:20000≤N):F6 N d=some (Bt N d):=by
  unfold F6
  rw[U7 d hm hi hN,Option.bind_some]
  unfold Bt
  split
  · rfl
  split
  · rfl
  · rfl
def upT (N:Nat) (x:List UInt8):List UInt8:=47::(Dk N x).1.flatMap (Gm [])
def upB (N:Nat) (x:List UInt8):Bool:=(Dk N x).1==[]||((Dk N x).1==[46]||(Dk N x).1==[46,46])
theorem AD1{s:List UInt8} (hN:20000≤N) (h:((Dk N s).2 !=0)=true):(Dk N s).1=[]:=by
  unfold Dk at *
  split
  · rfl
  · rename_i hs
    rw[if_neg hs,Qn N s [] (by omega)]at h
    rw[Qn N s [] (by omega)]
    cases hu:un N s with
    |none=>rfl
    |some us=>rw[hu]at h;exact absurd h (by simp)
theorem ATn (e:Int) (x:List UInt8) (hb:x.length≤100000) (hN:20000≤N):FW N ⟨e⟩ x=some (upT N x,⟨if upB N x=true then 110 else e⟩):=by
  have hd:=FU (N:=N) x
  have he:=KH [] (Dk N x).1
  have hg: ∀v:Option (List UInt8×DidwebMapper),grd (AX (([47]:List UInt8).length+((Dk N x).1.flatMap (Gm [])).length)) v=v:=fun v=>BP (by simp only[List.length_cons,List.length_nil];omega)
  unfold FW upB upT
  rw[Km _ hN,Option.bind_some]
  dsimp only[AL]
  rw[MQ _ _ (by omega)]
  simp only[Option.bind_some,hg]
  by_cases h:((Dk N x).2 !=0)=true
  · rw[if_pos h,AD1 hN h];rfl
  · rw[if_neg h]
    cases ((Dk N x).1==[])<;>cases ((Dk N x).1==[46])<;>cases ((Dk N x).1==[46,46])<;>rfl
end
end Go.VM
namespace Go.VM
section
variable{N:Nat}
theorem ZN (x:List UInt8):(upT N x).length≤3 * x.length+1:=by
  have hd:=FU (N:=N) x
  have he:=KH [] (Dk N x).1
  unfold upT;rw[List.length_cons];omega
def wS (xs:List (List UInt8)):Nat:=(xs.map List.length).sum+xs.length
theorem KN (x:List UInt8) (xs:List (List UInt8)):wS (x::xs)=x.length+1+wS xs:=by
  unfold wS;rw[List.map_cons,List.sum_cons,List.length_cons];omega
theorem PR (xs:List (List UInt8)):wS (xs.drop 1)≤wS xs:=by
  cases xs with
  |nil=>exact Nat.le_refl _
  |cons x xs=>rw[KN];simp only[List.drop_succ_cons,List.drop_zero];omega
theorem M4 (c:UInt8) (l:List UInt8):wS (AP c l)=l.length+1:=AFJ c _ l (Nat.le_refl _)
theorem Rh: ∀xs:List (List UInt8),(xs.flatMap (upT N)).length≤3 * wS xs
  |[]=>by simp
  | x::xs=>by
    have:=ZN (N:=N) x
    have:=Rh xs
    rw[List.flatMap_cons,List.length_append,KN];omega
theorem PM (hN:20000≤N) (k:Bool×List UInt8×DidwebMapper→Option (List UInt8×DidwebMapper)): ∀(xs:List (List UInt8)) (d:Bool) (b:List UInt8) (e:Int),b.length+3 * wS xs≤300000→
    Ae N k xs d b ⟨e⟩=k (d||!xs.isEmpty,b++xs.flatMap (upT N),⟨if xs.any (upB N)=true then 110 else e⟩)
  | [],d,b,e,_=>by
    rw[Ae];simp
  | x::xs,d,b,e,h=>by
    have hu:=ZN (N:=N) x
    rw[KN]at h
    rw[Ae,ATn _ _ (by omega) hN,Option.bind_some]
    dsimp only
    rw[R3 _ _ _ (by omega),Option.bind_some]
    dsimp only
    rw[PM hN k xs _ _ _ (by rw[List.length_append];omega),List.flatMap_cons,List.any_cons,List.append_assoc]
    cases upB N x<;>cases xs.any (upB N)<;>simp
theorem AHK (xs:List (List UInt8)) (e:Int) (h:wS xs≤100000) (hN:20000≤N):Bw N xs ⟨e⟩=some (xs.flatMap (upT N),⟨if xs.any (upB N)=true then 110 else e⟩):=by
  unfold Bw
  dsimp only[AL]
  have:xs.length≤wS xs:=by unfold wS;omega
  rw[BP (by omega),PM hN _ _ _ _ _ (by simp;omega)]
  rfl
def J8:List UInt8:=[47,46,119,101,108,108,45,107,110,111,119,110,47,100,105,100,46,106,115,111,110]
def AGy:List UInt8:=[47,100,105,100,46,106,115,111,110]
def GQ (N:Nat) (xs:List (List UInt8)):List UInt8:=if xs=[]then J8 else xs.flatMap (upT N)++AGy
def EC (h:List UInt8) (p:Int) (path:List UInt8):ApiURL:=⟨h,p,path,[],[],false,false⟩
def toS (N:Nat) (d:ApiDID):ApiURL×Int:=
  if((Bt N d).2 !=0)=true then(JB,(Bt N d).2)
  else if((AP 58 d.iD).drop 1).any (upB N)=true then(JB,110)
  else if(Js (EC (Bt N d).1.host (Bt N d).1.port (GQ N ((AP 58 d.iD).drop 1)))).length>4096 then(JB,5)
  else(EC (Bt N d).1.host (Bt N d).1.port (GQ N ((AP 58 d.iD).drop 1)),0)
theorem Ld (d:ApiDID):FE (Bt N d).1.port∧(Bt N d).1.host.length≤253:=by
  unfold Bt
  split
  · exact⟨by unfold FE hp0;simp,by simp[hp0]⟩
  split
  · exact⟨by unfold FE hp0;simp,by simp[hp0]⟩
  · exact⟨YI _,Ro _⟩
theorem Sa (xs:List (List UInt8)):(GQ N xs).length≤3 * wS xs+21:=by
  have:=Rh (N:=N) xs
  unfold GQ
  split
  · simp[J8]
  · simp[AGy]at *;omega
theorem AHz{l:List (List UInt8)} (h:l≠ []) (hb:l.length≤1000000):sub l 1 (l.length:Int)=some (l.drop 1):=by
  have:0<l.length:=List.length_pos_iff.2 h
  rw[show(1:Int)=((1:Nat):Int)from rfl,CR l 1 l.length (by omega) (Nat.le_refl _),List.take_of_length_le (by simp)]
theorem AQA (d:ApiDID) (hm:d.method.length≤4096) (hi:d.iD.length≤16000) (hN:20000≤N):Ic N d=some (toS N d):=by
  have hsl:=FD 58 d.iD
  have hne:=Bo 58 d.iD
  have hw:=M4 58 d.iD
  have hw1:=PR (AP 58 d.iD)
  obtain⟨a1,a2⟩:=Ld (N:=N) d
  have hpl:=Sa (N:=N) ((AP 58 d.iD).drop 1)
  unfold Ic toS
  rw[Uv d hm hi hN,Option.bind_some]
  by_cases h:((Bt N d).2 !=0)=true
  · rw[if_pos h,if_pos h];rfl
  rw[if_neg h,if_neg h,Qm _ 58 (by omega)]
  dsimp only[AL]
  rw[Option.bind_some,AHz hne (by omega),Option.bind_some]
  generalize (AP 58 d.iD).drop 1=xs at *
  have fin: ∀P:List UInt8,P.length≤1000000→(Option.bind (Cg N (ApiURL.mk (Bt N d).1.host (Bt N d).1.port P [] [] false false)) fun y12=>
     if(decide ((y12.length:Int)>4096))=true then
      (some ((ApiURL.mk [] 0 [] [] [] false false),5):Option (ApiURL×Int))
     else
      some ((ApiURL.mk (Bt N d).1.host (Bt N d).1.port P [] [] false false),0))=some (if(Js (EC (Bt N d).1.host (Bt N d).1.port P)).length>4096 then(JB,5)else(EC (Bt N d).1.host (Bt N d).1.port P,0)):=by
    intro P hP
    rw[M6 _ ⟨a1,by dsimp only;omega,by dsimp only;omega,by simp,by simp⟩ (by omega),Option.bind_some]
    unfold EC
    split
    · rename_i hx;rw[if_pos (by simp only[decide_eq_true_eq]at hx;omega)];rfl
    · rename_i hx;rw[if_neg (by simp only[decide_eq_true_eq]at hx;omega)]
  have hul:=Rh (N:=N) xs
  cases xs with
  | nil=>
    rw[if_neg (by decide)]
    exact fin J8 (by decide)
  | cons x xs=>
    rw[if_pos (by simp),AHK _ _ (by omega) hN,Option.bind_some,BP (by simp only[List.length_append,List.length_cons,List.length_nil];omega),BP (by simp only[List.length_append,List.length_cons,List.length_nil];omega)]
    by_cases hb:(x::xs).any (upB N)=true
    · rw[if_pos hb,if_pos hb];rfl
    · rw[if_neg hb,if_neg hb]
      dsimp only
      rw[if_neg (by decide)]
      have e:((x::xs).flatMap (upT N)++[47])++[100,105,100,46,106,115,111,110]=GQ N (x::xs):=by
        unfold GQ AGy
        rw[if_neg (by simp),List.append_assoc];rfl
      rw[←e]at hpl
      rw[fin _ (by omega),e]
theorem AET (hN:20000≤N) (k:List UInt8→Option (ApiURL×Int)): ∀(xs:List (List UInt8)) (acc:List UInt8),acc.length+3 * wS xs≤300000→
    C8 N k xs acc=if xs.any (upB N)=true then some (JB,110)else k (acc++xs.flatMap (upT N))
  |[],acc,_=>by rw[C8];simp
  | x::xs,acc,h=>by
    have hu:=ZN (N:=N) x
    have hd:=FU (N:=N) x
    have he:=KH [] (Dk N x).1
    rw[KN]at h
    rw[C8,JF _ hN,Option.bind_some]
    dsimp only[AL]
    rw[Oi _ _ (by simp) (by omega)]
    have ih:=AET hN k xs (acc++([47]++(Dk N x).1.flatMap (Gm []))) (by simp only[List.length_append,List.length_cons,List.length_nil];omega)
    have hg: ∀v:Option (ApiURL×Int),grd (AX (([47]:List UInt8).length+((Dk N x).1.flatMap (Gm [])).length)) v=v:=fun v=>BP (by simp only[List.length_cons,List.length_nil];omega)
    have hg2: ∀v:Option (ApiURL×Int),grd (AX (acc.length+(([47]:List UInt8)++(Dk N x).1.flatMap (Gm [])).length)) v=v:=fun v=>BP (by simp only[List.length_append,List.length_cons,List.length_nil];omega)
    have hup:upT N x=[47]++(Dk N x).1.flatMap (Gm []):=rfl
    rw[List.any_cons,List.flatMap_cons,hup,←List.append_assoc]
    rw[Option.bind_some,hg,hg2,ih]
    unfold upB
    cases ((Dk N x).1==[])<;>cases ((Dk N x).1==[46])<;>cases ((Dk N x).1==[46,46])<;>rfl
theorem ARJ (d:ApiDID) (hm:d.method.length≤4096) (hi:d.iD.length≤16000) (hN:20000≤N):Jg N d=some (toS N d):=by
  have hsl:=FD 58 d.iD
  have hne:=Bo 58 d.iD
  have hw:=M4 58 d.iD
  have hw1:=PR (AP 58 d.iD)
  obtain⟨a1,a2⟩:=Ld (N:=N) d
  have hpl:=Sa (N:=N) ((AP 58 d.iD).drop 1)
  unfold Jg toS
  rw[U7 d hm hi hN,Option.bind_some]
  by_cases h1:(d.method==Fy)=false
  · have e:Bt N d=(hp0,100):=by unfold Bt;rw[if_pos h1]
    rw[if_pos h1,e];rfl
  by_cases h2:((H8 (Gj d)).2 !=0)=true
  · have e:Bt N d=(hp0,(H8 (Gj d)).2):=by unfold Bt;rw[if_neg h1,if_pos h2]
    rw[if_neg h1,if_pos h2,e]
    dsimp only
    rw[if_pos h2,if_pos h2];rfl
  rw[if_neg h1,if_neg h2]
  dsimp only
  by_cases h:((Bt N d).2 !=0)=true
  · rw[if_pos h,if_pos h];rfl
  rw[if_neg h,if_neg h]
  dsimp only[AL]
  rw[AHz hne (by omega),Option.bind_some]
  have hone:((((AP 58 d.iD).length:Nat):Int)==1)=decide ((AP 58 d.iD).drop 1=[]):=by
    have:0<(AP 58 d.iD).length:=List.length_pos_iff.2 hne
    by_cases hq:(AP 58 d.iD).drop 1=[]
    · have:=List.drop_eq_nil_iff.1 hq
      rw[decide_eq_true hq];simp;omega
    · rw[decide_eq_false hq]
      have: ¬(AP 58 d.iD).length≤1:=fun hh=>hq (List.drop_eq_nil_iff.2 hh)
      simp;omega
  rw[hone]
  generalize (AP 58 d.iD).drop 1=xs at *
  have hxl:xs.length≤wS xs:=by unfold wS;omega
  have hul:=Rh (N:=N) xs
  rw[BP (by omega),AET hN _ _ _ (by simp;omega)]
  by_cases hb:xs.any (upB N)=true
  · rw[if_pos hb,if_pos hb]
  rw[if_neg hb,if_neg hb,List.nil_append]
  have fin: ∀Q:List UInt8,Q++AGy=GQ N xs→(grd (AX (Q.length+([47,100,105,100,46,106,115,111,110]:List UInt8).length)) (
    Option.bind (CZ N (ApiURL.mk (Bt N d).1.host (Bt N d).1.port (Q++([47,100,105,100,46,106,115,111,110]:List UInt8)) [] [] false false)) fun y12=>
     if(decide ((y12.length:Int)>4096))=true then
      (some ((ApiURL.mk [] 0 [] [] [] false false),5):Option (ApiURL×Int))
     else
      some ((ApiURL.mk (Bt N d).1.host (Bt N d).1.port (Q++([47,100,105,100,46,106,115,111,110]:List UInt8)) [] [] false false),0)))=some (if(Js (EC (Bt N d).1.host (Bt N d).1.port (GQ N xs))).length>4096 then(JB,5)else(EC (Bt N d).1.host (Bt N d).1.port (GQ N xs),0)):=by
    intro Q hQ
    change grd _ (Option.bind (CZ N (ApiURL.mk (Bt N d).1.host (Bt N d).1.port (Q++AGy) [] [] false false)) fun y12=>
     if(decide ((y12.length:Int)>4096))=true then
      (some ((ApiURL.mk [] 0 [] [] [] false false),5):Option (ApiURL×Int))
     else
      some ((ApiURL.mk (Bt N d).1.host (Bt N d).1.port (Q++AGy) [] [] false false),0))=_
    have hl:=congrArg List.length hQ
    rw[List.length_append]at hl
    rw[BP (by simp;omega),hQ,NM _ ⟨a1,by dsimp only;omega,by dsimp only;omega,by simp,by simp⟩ (by omega),Option.bind_some]
    unfold EC
    split
    · rename_i hx;rw[if_pos (by simp only[decide_eq_true_eq]at hx;omega)];rfl
    · rename_i hx;rw[if_neg (by simp only[decide_eq_true_eq]at hx;omega)]
  by_cases hq:xs=[]
  · subst hq
    rw[if_pos (by simp)]
    exact fin [47,46,119,101,108,108,45,107,110,111,119,110] (by unfold GQ;rw[if_pos rfl];rfl)
  · rw[if_neg (by simpa using hq)]
    exact fin _ (by unfold GQ;rw[if_neg hq])
end
end Go.VM
namespace Go.VM
section
variable{N:Nat}
def MR:List UInt8:=[104,116,116,112,115]
theorem ADp:GX MR:=by unfold GX;decide
def UW (u:ApiURL):List UInt8:=[47,47]++(hpF u.host u.port++(NU u++if u.hasFrag=true then [35]++u.fragment else []))
theorem XI (u:ApiURL):Js u=MR++58::UW u:=by
  unfold Js UW MR
  split<;>simp
def eqU (u v:ApiURL):Bool:=u.host==v.host&&(u.port==v.port&&(u.path==v.path&&(u.query==v.query&&(u.fragment==v.fragment&&(u.hasQuery==v.hasQuery&&u.hasFrag==v.hasFrag)))))
theorem AS4{u v:ApiURL} (h:eqU u v=true):u=v:=by
  unfold eqU at h
  simp only[Bool.and_eq_true,beq_iff_eq]at h
  cases u;cases v;simp_all
theorem SG (u:ApiURL):eqU u u=true:=by unfold eqU;simp
def MP (N:Nat) (u:ApiURL):Bool:=if((OJ N MR (UW u)).2==0)=true then eqU u (OJ N MR (UW u)).1 else false
theorem AKT (u:ApiURL) (h:Sv u) (hb:(Js u).length≤1000000) (hN:20000≤N):Il N u=some (MP N u):=by
  rw[XI]at hb
  unfold Il MP
  rw[M6 u h (by omega),Option.bind_some,XI,AHX ADp hb hN,Option.bind_some]
  split<;>rfl
theorem AJH (u:ApiURL) (h:Sv u) (hb:(Js u).length≤1000000) (hN:20000≤N):Jh N u=some (MP N u):=by
  rw[XI]at hb
  unfold Jh MP
  rw[NM u h (by omega),Option.bind_some,XI,AHw ADp hb hN,Option.bind_some]
  split<;>rfl
def okU (c:UInt8):Bool:=c==37||Cu c
def OH (N:Nat) (x:List UInt8):Bool:=!(x.all okU)||(Dk N x).1==[]
def IW (N:Nat) (x:List UInt8):List UInt8:=58::(Dk N x).1.flatMap Em
theorem QO (k:Int→Option (List UInt8×DidwebMapper)): ∀(l:List UInt8) (e:Int),BD N k l e=k (if l.all okU=true then e else 110)
  |[],e=>by rw[BD];rfl
  | c::l,e=>by
    rw[BD]
    dsimp only[AL]
    rw[P9,Option.bind_some,QO k l,QO k l,List.all_cons]
    have h37:(AJ c !=37)=!(c==37):=by unfold bne;rw[LK];rfl
    rw[h37]
    unfold okU
    cases (c==37)<;>cases Cu c<;>cases l.all (fun c=>c==37||Cu c)<;>rfl
theorem AIf (l:List UInt8):(l.flatMap (Gm [])).flatMap (RY [37,55,69] 126)=l.flatMap Em:=by
  rw[List.flatMap_assoc]
  congr 1;funext b;exact ANT b
theorem AQG (e:Int) (x:List UInt8) (hb:x.length≤100000) (hN:20000≤N):En N ⟨e⟩ x=some (IW N x,⟨if OH N x=true then 110 else e⟩):=by
  have hd:=FU (N:=N) x
  have he:=KH [] (Dk N x).1
  have hf:=Le (f:=Em) (n:=3) (fun b=>(I7 b).1) (Dk N x).1
  have hg: ∀v:Option (List UInt8×DidwebMapper),grd (AX (([58]:List UInt8).length+((Dk N x).1.flatMap Em).length)) v=v:=fun v=>BP (by simp only[List.length_cons,List.length_nil];omega)
  unfold En OH IW
  dsimp only[AL]
  rw[BP (by omega),QO,Km _ hN,Option.bind_some,MQ _ _ (by omega)]
  simp only[Option.bind_some]
  rw[K8 _ _ _ rfl (by omega),AIf]
  simp only[Option.bind_some,hg]
  by_cases h:((Dk N x).2 !=0)=true
  · rw[if_pos h,AD1 hN h];cases x.all okU<;>rfl
  · rw[if_neg h]
    cases ((Dk N x).1==[])<;>cases x.all okU<;>rfl
theorem Qs (x:List UInt8):(IW N x).length≤3 * x.length+1:=by
  have hd:=FU (N:=N) x
  have hf:=Le (f:=Em) (n:=3) (fun b=>(I7 b).1) (Dk N x).1
  unfold IW;rw[List.length_cons];omega
theorem Ql: ∀xs:List (List UInt8),(xs.flatMap (IW N)).length≤3 * wS xs
  |[]=>by simp
  | x::xs=>by
    have:=Qs (N:=N) x
    have:=Ql xs
    rw[List.flatMap_cons,List.length_append,KN];omega
theorem NG (hN:20000≤N) (k:Bool×List UInt8×DidwebMapper→Option (List UInt8×DidwebMapper)): ∀(xs:List (List UInt8)) (d:Bool) (b:List UInt8) (e:Int),b.length+3 * wS xs≤300000→
    Ab N k xs d b ⟨e⟩=k (d||!xs.isEmpty,b++xs.flatMap (IW N),⟨if xs.any (OH N)=true then 110 else e⟩)
  | [],d,b,e,_=>by
    rw[Ab];simp
  | x::xs,d,b,e,h=>by
    have hu:=Qs (N:=N) x
    rw[KN]at h
    rw[Ab,AQG _ _ (by omega) hN,Option.bind_some]
    dsimp only
    rw[R3 _ _ _ (by omega),Option.bind_some]
    dsimp only
    rw[NG hN k xs _ _ _ (by rw[List.length_append];omega),List.flatMap_cons,List.any_cons,List.append_assoc]
    cases OH N x<;>cases xs.any (OH N)<;>simp
theorem ZX (xs:List (List UInt8)) (e:Int) (h:wS xs≤100000) (hN:20000≤N):BK N xs ⟨e⟩=some (xs.flatMap (IW N),⟨if xs.any (OH N)=true then 110 else e⟩):=by
  unfold BK
  dsimp only[AL]
  have:xs.length≤wS xs:=by unfold wS;omega
  rw[BP (by omega),NG hN _ _ _ _ _ (by simp;omega)]
  rfl
def TB:List UInt8:=[100,105,100,46,106,115,111,110]
def idA (h:List UInt8) (p:Int):List UInt8:=if p=0 then h else h++([37,51,65]++fmtS p.toNat)
theorem AHU (h:List UInt8) (p:Int):(idA h p).length≤h.length+23:=by
  have:=Lt p.toNat
  unfold idA
  split
  · omega
  · simp only[List.length_append,List.length_cons,List.length_nil];omega
def M8 (N:Nat) (h:List UInt8) (p:Int) (path:List UInt8) (L:List (List UInt8)):ApiDID×Int:=
  if(L.getLast?==some TB)=false then(Hm,6)
  else if L.length=1 then(Hm,110)
  else if path=J8 then(if(Gj ⟨Fy,idA h p⟩).length>4096 then(Hm,5)else(⟨Fy,idA h p⟩,0))
  else if L.dropLast.any (OH N)=true then(Hm,110)
  else if(Gj ⟨Fy,idA h p++L.dropLast.flatMap (IW N)⟩).length>4096 then(Hm,5)
  else(⟨Fy,idA h p++L.dropLast.flatMap (IW N)⟩,0)
def Pq (N:Nat) (u:ApiURL):ApiDID×Int:=if MP N u=true then M8 N u.host u.port u.path ((AP 47 u.path).drop 1)else(Hm,8)
theorem AUX{β:Type} (h:List UInt8) (p:Int) (hp:FE p) (hb:h.length≤1000000) (hN:20≤N) (k:List UInt8→Option β):
    (if(p !=0)=true then Option.bind (Ee N (wr .u64 p)) fun y15=>grd (AX (([37,51,65]:List UInt8).length+y15.length)) (grd (AX (h.length+(([37,51,65]:List UInt8)++y15).length)) (k (h++(([37,51,65]:List UInt8)++y15))))else k h)=k (idA h p):=by
  have hl:=Lt p.toNat
  obtain⟨h1,h2⟩:=hp
  unfold idA
  by_cases h0:p=0
  · subst h0;rfl
  · rw[if_pos (by simpa using h0),if_neg h0]
    have e:wr .u64 p=((p.toNat:Nat):Int):=by rw[Hd (by omega)];omega
    simp only[e]
    rw[SV p.toNat (by omega) hN,Option.bind_some,BP (by simp only[List.length_append,List.length_cons,List.length_nil];omega),BP (by simp only[List.length_append,List.length_cons,List.length_nil];omega)]
theorem AUf{β:Type} (h:List UInt8) (p:Int) (hp:FE p) (hb:h.length≤1000000) (hN:20≤N) (k:List UInt8→Option β):
    (if(p !=0)=true then Option.bind (FB N p) fun y15=>grd (AX (([37,51,65]:List UInt8).length+y15.length)) (grd (AX (h.length+(([37,51,65]:List UInt8)++y15).length)) (k (h++(([37,51,65]:List UInt8)++y15))))else k h)=k (idA h p):=by
  have hl:=Lt p.toNat
  obtain⟨h1,h2⟩:=hp
  unfold idA FB
  by_cases h0:p=0
  · subst h0;rfl
  · rw[if_pos (by simpa using h0),if_neg h0,if_neg (by simp;omega)]
    have e:wr .u64 p=((p.toNat:Nat):Int):=by rw[Hd (by omega)];omega
    simp only[e]
    rw[Tg p.toNat (by omega) hN,Option.bind_some,Option.bind_some,BP (by simp only[List.length_append,List.length_cons,List.length_nil];omega),BP (by simp only[List.length_append,List.length_cons,List.length_nil];omega)]
theorem Um{l:List (List UInt8)} (hne:l≠ []) (hb:l.length≤1000000): ∃y,l.getLast?=some y∧idx l (wr .i64 ((l.length:Int)-1))=some y:=⟨l.getLast hne,List.getLast?_eq_some_getLast hne,VJ hne hb⟩
theorem ADB{l:List (List UInt8)} (hne:l≠ []) (hb:l.length≤1000000):sub l 0 (wr .i64 ((l.length:Int)-1))=some l.dropLast:=by
  have:0<l.length:=List.length_pos_iff.2 hne
  rw[show wr .i64 ((l.length:Int)-1)=((l.length-1:Nat):Int) by rw[BF (by omega)];omega,show(0:Int)=((0:Nat):Int)from rfl,CR l 0 (l.length-1) (by omega) (by omega),List.drop_zero,Nat.sub_zero,List.dropLast_eq_take]
theorem NN: ∀xs:List (List UInt8),wS xs.dropLast≤wS xs
  |[]=>Nat.le_refl _
  |[x]=>by simp[wS]
  | x::y::xs=>by
    have:=NN (y::xs)
    rw[List.dropLast_cons_cons,KN,KN x];omega
theorem AN4 (h:List UInt8) (p:Int) (path:List UInt8) (hu:Sv (EC h p path)) (hh:h.length≤1000) (hp:path.length≤5000) (hL:(AP 47 path).drop 1≠ []) (hN:20000≤N):Gc N (EC h p path)=some (Pq N (EC h p path)):=by
  have hpt:=hu.1
  have hF:(Js (EC h p path)).length≤1000000:=by
    have:=Pn h p
    have ht:NU (EC h p path)=path:=rfl
    have he:Js (EC h p path)=([104,116,116,112,115,58,47,47]++hpF h p)++path:=rfl
    rw[he]
    simp only[List.length_append,List.length_cons,List.length_nil];omega
  have hw:=M4 47 path
  have hw1:=PR (AP 47 path)
  have hsl:=FD 47 path
  have hne:=Bo 47 path
  unfold Gc Pq
  rw[AKT _ hu hF hN,Option.bind_some]
  by_cases hv:MP N (EC h p path)=true
  rotate_left
  · rw[if_neg hv,if_neg hv];rfl
  rw[if_pos hv,if_pos hv]
  change Option.bind (strings_Split N path [47]) _=some (M8 N h p path ((AP 47 path).drop 1))
  rw[Qm _ 47 (by omega),Option.bind_some,AHz hne (by omega)]
  rw[Option.bind_some]
  generalize (AP 47 path).drop 1=L at *
  have hLl:L.length≤wS L:=by unfold wS;omega
  obtain⟨y,hy1,hy2⟩:=Um hL (by omega)
  dsimp only[AL]
  change Option.bind (idx L (wr .i64 ((L.length:Int)-1))) (fun x10=>if(!(x10==TB))=true then some (Hm,(6:Int))else _)=_
  rw[hy2,Option.bind_some]
  unfold M8
  rw[hy1]
  by_cases hd:y=TB
  rotate_left
  · rw[if_pos (by simpa using hd),if_pos (by simpa using hd)]
  rw[if_neg (show¬(!(y==TB))=true by simp[hd]),if_neg (show¬(some y==some TB)=false by simp[hd])]
  by_cases h1:L.length=1
  · rw[if_pos (show((L.length:Int)==1)=true by simp[h1]),if_pos h1];rfl
  rw[if_neg (show¬((L.length:Int)==1)=true by simp;omega),if_neg h1]
  have hid:=AHU h p
  have hdl:=Ql (N:=N) L.dropLast
  have hwl:=NN L
  have fin: ∀I:List UInt8,I.length≤100000→(Option.bind (Dn N (ApiDID.mk ([119,101,98]:List UInt8) I)) fun y24=>
       if(decide ((y24.length:Int)>4096))=true then
        (some ((ApiDID.mk [] []),5):Option (ApiDID×Int))
       else
        some ((ApiDID.mk ([119,101,98]:List UInt8) I),0))=some (if(Gj ⟨Fy,I⟩).length>4096 then(Hm,5)else(⟨Fy,I⟩,0)):=by
    intro I hI
    rw[Sr _ ⟨by simp,by dsimp only;omega⟩,Option.bind_some]
    change (if decide (((Gj ⟨Fy,I⟩).length:Int)>4096)=true then _ else _)=_
    split
    · rename_i hx;rw[if_pos (by simp only[decide_eq_true_eq]at hx;omega)];rfl
    · rename_i hx;rw[if_neg (by simp only[decide_eq_true_eq]at hx;omega)];rfl
  refine(AUX (N:=N) h p hpt (by omega) (by omega) (fun J=>if(path==J8)=true then
       (Option.bind (Dn N (ApiDID.mk ([119,101,98]:List UInt8) J)) fun y24=>
       if(decide ((y24.length:Int)>4096))=true then
        some ((ApiDID.mk [] []),5)
       else
        some ((ApiDID.mk ([119,101,98]:List UInt8) J),0))
      else
       Option.bind (sub L 0 (wr .i64 ((L.length:Int)-1))) fun x21=>
       Option.bind (BK N x21 (DidwebMapper.mk 0)) fun y22=>
       grd (AX (J.length+y22.1.length)) (
       if(y22.2.e !=0)=true then
        some ((ApiDID.mk [] []),y22.2.e)
       else
        (Option.bind (Dn N (ApiDID.mk ([119,101,98]:List UInt8) (J++y22.1))) fun y24=>
       if(decide ((y24.length:Int)>4096))=true then
        some ((ApiDID.mk [] []),5)
       else
        some ((ApiDID.mk ([119,101,98]:List UInt8) (J++y22.1)),0))))).trans ?_
  change (if(path==J8)=true then _ else _)=_
  by_cases hr:path=J8
  · rw[if_pos (by simpa using hr),if_pos hr]
    exact fin (idA h p) (by omega)
  rw[if_neg (by simpa using hr),if_neg hr,ADB hL (by omega),Option.bind_some,ZX _ _ (by omega) hN,Option.bind_some,BP (by dsimp only;omega)]
  by_cases hb:L.dropLast.any (OH N)=true
  · rw[if_pos hb,if_pos hb];rfl
  · rw[if_neg hb,if_neg hb]
    dsimp only
    rw[if_neg (by decide)]
    exact fin _ (by rw[List.length_append];omega)
end
end Go.VM
namespace Go.VM
section
variable{N:Nat}
theorem AOt (k:Unit→Option (ApiDID×Int)): ∀l:List UInt8,CS N k l=if l.all okU=true then k ()else some (Hm,110)
  |[]=>by rw[CS];rfl
  | c::l=>by
    rw[CS]
    dsimp only[AL]
    rw[Pi,Option.bind_some,AOt k l,List.all_cons]
    have h37:(AJ c !=37)=!(c==37):=by unfold bne;rw[LK];rfl
    rw[h37]
    unfold okU
    cases (c==37)<;>cases Cu c<;>cases l.all (fun c=>c==37||Cu c)<;>rfl
theorem O5 (hN:20000≤N) (h:List UInt8) (p:Int) (path:List UInt8) (k:List UInt8→Option (ApiDID×Int)): ∀(xs:List (List UInt8)) (acc:List UInt8),acc.length+3 * wS xs≤300000→
    Bq N (EC h p path) k xs acc=if xs.any (OH N)=true then some (Hm,110)else k (if path=J8 then acc else acc++xs.flatMap (IW N))
  |[],acc,_=>by rw[Bq];simp
  | x::xs,acc,hb=>by
    have hu:=Qs (N:=N) x
    have hd:=FU (N:=N) x
    have hf:=Le (f:=Em) (n:=3) (fun b=>(I7 b).1) (Dk N x).1
    rw[KN]at hb
    rw[Bq,List.any_cons,List.flatMap_cons]
    dsimp only[AL]
    rw[BP (by omega),AOt,JF _ hN,Option.bind_some]
    unfold OH
    by_cases h1:x.all okU=true
    rotate_left
    · rw[if_neg h1,Bool.eq_false_iff.2 h1];rfl
    rw[if_pos h1,h1]
    by_cases h2:((Dk N x).1==[])=true
    · rw[if_pos h2,h2];rfl
    rw[if_neg h2,Bool.eq_false_iff.2 h2,Bool.not_true,Bool.false_or,Bool.false_or]
    change (if(path==J8)=true then _ else _)=_
    by_cases hr:path=J8
    · rw[if_pos (show(path==J8)=true by simpa using hr),O5 hN h p path k xs acc (by omega)]
      simp only[hr,if_true]
      rfl
    · rw[if_neg (show¬(path==J8)=true by simpa using hr),ADQ _ (by omega),Option.bind_some,BP (by simp only[List.length_cons,List.length_nil];omega),BP (by simp only[List.length_append,List.length_cons,List.length_nil];omega)]
      have e:acc++([58]++(Dk N x).1.flatMap Em)=acc++IW N x:=rfl
      rw[e,O5 hN h p path k xs _ (by rw[List.length_append];omega)]
      simp only[hr,if_false,List.append_assoc]
      rfl
theorem AIt (hN:20000≤N):((AP 47 J8).drop 1).dropLast.any (OH N)=false:=by
  have e:((AP 47 J8).drop 1).dropLast=[[46,119,101,108,108,45,107,110,111,119,110]]:=by decide
  rw[e]
  simp only[List.any_cons,List.any_nil,Bool.or_false]
  unfold OH
  rw[OY (by decide) hN]
  rfl
theorem AM4 (h:List UInt8) (p:Int) (path:List UInt8) (hu:Sv (EC h p path)) (hh:h.length≤1000) (hp:path.length≤5000) (hL:(AP 47 path).drop 1≠ []) (hN:20000≤N):Hq N (EC h p path)=some (Pq N (EC h p path)):=by
  have hpt:=hu.1
  have hF:(Js (EC h p path)).length≤1000000:=by
    have:=Pn h p
    have ht:NU (EC h p path)=path:=rfl
    have he:Js (EC h p path)=([104,116,116,112,115,58,47,47]++hpF h p)++path:=rfl
    rw[he]
    simp only[List.length_append,List.length_cons,List.length_nil];omega
  have hw:=M4 47 path
  have hw1:=PR (AP 47 path)
  have hsl:=FD 47 path
  have hne:=Bo 47 path
  unfold Hq Pq
  rw[AJH _ hu hF hN,Option.bind_some]
  by_cases hv:MP N (EC h p path)=true
  rotate_left
  · rw[if_neg hv,if_neg hv];rfl
  rw[if_pos hv,if_pos hv]
  change Option.bind (EQ N path (AJ 47)) _=some (M8 N h p path ((AP 47 path).drop 1))
  rw[KO _ 47 (by omega),Option.bind_some,AHz hne (by omega)]
  rw[Option.bind_some]
  have hroot:path=J8→((AP 47 path).drop 1).dropLast.any (OH N)=false:=fun e=>by rw[e];exact AIt hN
  generalize (AP 47 path).drop 1=L at *
  have hLl:L.length≤wS L:=by unfold wS;omega
  obtain⟨y,hy1,hy2⟩:=Um hL (by omega)
  dsimp only[AL]
  change Option.bind (idx L (wr .i64 ((L.length:Int)-1))) (fun x10=>if(!(x10==TB))=true then some (Hm,(6:Int))else _)=_
  rw[hy2,Option.bind_some]
  unfold M8
  rw[hy1]
  by_cases hd:y=TB
  rotate_left
  · rw[if_pos (by simpa using hd),if_pos (by simpa using hd)]
  rw[if_neg (show¬(!(y==TB))=true by simp[hd]),if_neg (show¬(some y==some TB)=false by simp[hd]),ADB hL (by omega),Option.bind_some]
  have hpos:0<L.length:=List.length_pos_iff.2 hL
  by_cases h1:L.length=1
  · rw[if_pos (show(((L.dropLast.length:Nat):Int)==0)=true by simp[h1]),if_pos h1];rfl
  rw[if_neg (show¬(((L.dropLast.length:Nat):Int)==0)=true by simp;omega),if_neg h1]
  have hid:=AHU h p
  have hdl:=Ql (N:=N) L.dropLast
  have hwl:=NN L
  have hdll:L.dropLast.length≤wS L.dropLast:=by unfold wS;omega
  have fin: ∀I:List UInt8,I.length≤100000→(Option.bind (DV N (ApiDID.mk ([119,101,98]:List UInt8) I)) fun y24=>
       if(decide ((y24.length:Int)>4096))=true then
        (some ((ApiDID.mk [] []),5):Option (ApiDID×Int))
       else
        some ((ApiDID.mk ([119,101,98]:List UInt8) I),0))=some (if(Gj ⟨Fy,I⟩).length>4096 then(Hm,5)else(⟨Fy,I⟩,0)):=by
    intro I hI
    rw[Sw _ ⟨by simp,by dsimp only;omega⟩,Option.bind_some]
    change (if decide (((Gj ⟨Fy,I⟩).length:Int)>4096)=true then _ else _)=_
    split
    · rename_i hx;rw[if_pos (by simp only[decide_eq_true_eq]at hx;omega)];rfl
    · rename_i hx;rw[if_neg (by simp only[decide_eq_true_eq]at hx;omega)];rfl
  refine(AUf (N:=N) h p hpt (by omega) (by omega) (fun J=>grd (AX L.dropLast.length) (Bq N (EC h p path) (fun j18=>
       Option.bind (DV N (ApiDID.mk ([119,101,98]:List UInt8) j18)) fun y42=>
       if(decide ((y42.length:Int)>4096))=true then
        some ((ApiDID.mk [] []),5)
       else
        some ((ApiDID.mk ([119,101,98]:List UInt8) j18),0)) L.dropLast J))).trans ?_
  rw[BP (by omega),O5 hN h p path _ _ _ (by omega)]
  by_cases hr:path=J8
  · rw[hroot hr,if_neg (by decide),if_pos hr,if_pos hr]
    exact fin (idA h p) (by omega)
  rw[if_neg hr,if_neg hr]
  by_cases hb:L.dropLast.any (OH N)=true
  · rw[if_pos hb,if_pos hb]
  · rw[if_neg hb,if_neg hb]
    exact fin _ (by rw[List.length_append];omega)
theorem QU (c:UInt8): ∀a b:List UInt8,AP c (a++c::b)=AP c a++AP c b
  |[],b=>by simp[AP]
  | x::a,b=>by
    rw[List.cons_append,AP,AP,QU c a b]
    split
    · rfl
    · cases h:AP c a with
      |nil=>exact absurd h (Bo c a)
      |cons p ps=>rfl
theorem Pb (xs:List (List UInt8)):(AP 47 (GQ N xs)).drop 1≠ []:=by
  unfold GQ
  split
  · decide
  · have:AGy=47::TB:=rfl
    rw[this,QU]
    intro h
    have h1:=congrArg List.length h
    have h2:0<(AP 47 (xs.flatMap (upT N))).length:=List.length_pos_iff.2 (Bo _ _)
    have h3:(AP 47 TB).length=1:=by decide
    simp only[List.length_drop,List.length_append,List.length_nil]at h1
    omega
def OC (N:Nat) (d:ApiDID):ApiDID×Int:=if((toS N d).2 !=0)=true then(Hm,(toS N d).2)else Pq N (toS N d).1
theorem Vi{d:ApiDID} (h: ¬((toS N d).2 !=0)=true):(toS N d).1=EC (Bt N d).1.host (Bt N d).1.port (GQ N ((AP 58 d.iD).drop 1))∧(Js (toS N d).1).length≤4096∧((Bt N d).2 !=0)=false∧((AP 58 d.iD).drop 1).any (upB N)=false:=by
  unfold toS at h⊢
  split at h
  · rename_i h1;exact absurd h1 h
  rename_i h1
  rw[if_neg h1]
  split at h
  · exact absurd rfl h
  rename_i h2
  rw[if_neg h2]
  split at h
  · exact absurd rfl h
  rename_i h3
  rw[if_neg h3]
  exact⟨rfl,by dsimp only;omega,by simpa using h1,by simpa using h2⟩
theorem Rl{d:ApiDID} (h: ¬((toS N d).2 !=0)=true):(GQ N ((AP 58 d.iD).drop 1)).length≤4096:=by
  obtain⟨h1,h2,_⟩:=Vi h
  rw[h1]at h2
  have he: ∀(a:List UInt8) (b:Int) (c:List UInt8),Js (EC a b c)=([104,116,116,112,115,58,47,47]++hpF a b)++c:=fun _ _ _=>rfl
  rw[he]at h2
  simp only[List.length_append,List.length_cons,List.length_nil]at h2
  omega
theorem AE8{d:ApiDID} (h: ¬((toS N d).2 !=0)=true):Sv (EC (Bt N d).1.host (Bt N d).1.port (GQ N ((AP 58 d.iD).drop 1))):=by
  have:=Rl h
  obtain⟨a1,a2⟩:=Ld (N:=N) d
  exact⟨a1,by simp only[EC];omega,by simp only[EC];omega,by simp[EC],by simp[EC]⟩
theorem AOv (d:ApiDID) (hm:d.method.length≤4096) (hi:d.iD.length≤16000) (hN:20000≤N):FT N d=some (OC N d):=by
  obtain⟨a1,a2⟩:=Ld (N:=N) d
  unfold FT OC
  rw[AQA d hm hi hN,Option.bind_some]
  by_cases h:((toS N d).2 !=0)=true
  · rw[if_pos h,if_pos h];rfl
  have hb:=Rl h
  have hu:=AE8 h
  rw[if_neg h,if_neg h,(Vi h).1,AN4 _ _ _ hu (by omega) (by omega) (Pb _) hN]
  rfl
theorem AOo (d:ApiDID) (hm:d.method.length≤4096) (hi:d.iD.length≤16000) (hN:20000≤N):Fz N d=some (OC N d):=by
  obtain⟨a1,a2⟩:=Ld (N:=N) d
  unfold Fz OC
  rw[ARJ d hm hi hN,Option.bind_some]
  by_cases h:((toS N d).2 !=0)=true
  · rw[if_pos h,if_pos h];rfl
  have hb:=Rl h
  have hu:=AE8 h
  rw[if_neg h,if_neg h,(Vi h).1,AM4 _ _ _ hu (by omega) (by omega) (Pb _) hN]
  rfl
end
end Go.VM
namespace Go.VM
section
variable{N:Nat}
theorem Po{c:UInt8} (h:Da c=true):c≠35∧c≠63∧c≠47∧c≠58∧c≠37∧c≠64:=by
  have key:=Ba (f:=fun n=>(!Da (UInt8.ofNat n))||(decide (UInt8.ofNat n≠35)&&(decide (UInt8.ofNat n≠63)&&(decide (UInt8.ofNat n≠47)&&(decide (UInt8.ofNat n≠58)&&(decide (UInt8.ofNat n≠37)&&decide (UInt8.ofNat n≠64))))))) (g:=fun _=>true) (by kernel_rfl) c
  simp only[UInt8.ofNat_toNat]at key
  rw[h]at key
  simpa using key
theorem AJA{c:UInt8} (h:AAk c=true∨Ep c=true∨c=46):Da (Dc c)=true:=by
  have key:=Ba (f:=fun n=>(!(AAk (UInt8.ofNat n)||(Ep (UInt8.ofNat n)||decide (UInt8.ofNat n=46))))||Da (Dc (UInt8.ofNat n))) (g:=fun _=>true) (by kernel_rfl) c
  simp only[UInt8.ofNat_toNat]at key
  rcases h with h|h|h
  · rw[h]at key;simpa using key
  · rw[h]at key;simpa using key
  · rw[h]at key⊢;simpa using key
theorem QX (c:UInt8): ∀(l:List UInt8) (x:UInt8),x∈l→x=c∨ ∃p,p∈AP c l∧x∈p
  |[],x,h=>by cases h
  | y :: t, x,h=>by
    rw[AP]
    split
    · rename_i hy
      rcases List.mem_cons.1 h with rfl|h
      · exact .inl hy
      · rcases QX c t x h with h|⟨p,hp,hx⟩
        · exact .inl h
        · exact .inr ⟨p,by simp[hp],hx⟩
    · cases hs:AP c t with
      |nil=>exact absurd hs (Bo c t)
      | cons p ps=>
        simp only
        rcases List.mem_cons.1 h with rfl|h
        · exact .inr ⟨x::p,by simp,by simp⟩
        · rcases QX c t x h with h|⟨q,hq,hx⟩
          · exact .inl h
          · rw[hs]at hq
            rcases List.mem_cons.1 hq with rfl|hq
            · exact .inr ⟨y::q,by simp,by simp[hx]⟩
            · exact .inr ⟨q,by simp[hq],hx⟩
theorem AHN{m:Nat}{l:List UInt8} (h:(Dv m l).2=0):l.all Ep=true:=by
  unfold Dv at h
  split at h
  · cases h
  split at h
  · assumption
  · cases h
theorem AFa{a:List UInt8} (h:((FH a).2 !=0)=false):(FH a).1≠ []∧ ∀x,x∈(FH a).1→Da x=true:=by
  unfold FH at h⊢
  split at h
  · cases h
  rename_i h0
  rw[if_neg h0]
  split at h
  · cases h
  rename_i h1
  rw[if_neg h1]
  split at h
  rotate_left
  · cases h
  rename_i h2
  rw[if_pos h2]
  refine⟨by simpa using h0,fun x hx=>?_⟩
  obtain⟨y,hy,rfl⟩:=List.mem_map.1 hx
  refine AJA ?_
  rcases QX 46 a y hy with h|⟨p,hp,hyp⟩
  · exact .inr (.inr h)
  · rw[Bool.or_eq_true]at h2
    rcases h2 with h2|h2
    · unfold S9 at h2
      rw[Bool.and_eq_true]at h2
      have:=List.all_eq_true.1 h2.2 p hp
      exact .inr (.inl (List.all_eq_true.1 (AHN (by simpa using this)) y hyp))
    · unfold M3 at h2
      rw[Bool.and_eq_true]at h2
      have:=List.all_eq_true.1 h2.1 p hp
      unfold Ir at this
      simp only[Bool.and_eq_true]at this
      exact .inl (List.all_eq_true.1 this.2.2.2.2 y hyp)
theorem AOJ{a:List UInt8} (h:((hpS a).2 !=0)=false):(hpS a).1.host≠ []∧ ∀x,x∈(hpS a).1.host→Da x=true:=by
  unfold hpS at h⊢
  split at h
  · rename_i h1;rw[h1]at h;cases h
  rename_i h1
  have hc:=AFa (a:=(AY 58 a).1) (by simpa using h1)
  rw[if_neg h1]
  split at h
  · rename_i h2
    rw[if_pos h2]
    split at h
    · rename_i h3;rw[h3]at h;cases h
    · rename_i h3;rw[if_neg h3];exact hc
  · rename_i h2;rw[if_neg h2];exact hc
theorem AEa: ∀(k n:Nat) (acc:List UInt8),acc.all Da=true→(Te k n acc).all Da=true
  |0,n,acc,h=>h
  | k+1,n,acc,h=>by
    have hd:Da (UInt8.ofNat (48+n % 10))=true:=by
      have:n % 10<10:=Nat.mod_lt _ (by decide)
      generalize n % 10=d at *
      have:d=0∨d=1∨d=2∨d=3∨d=4∨d=5∨d=6∨d=7∨d=8∨d=9:=by omega
      rcases this with rfl|rfl|rfl|rfl|rfl|rfl|rfl|rfl|rfl|rfl<;>decide
    rw[Te]
    split
    · rw[List.all_cons,hd,h];rfl
    · exact AEa k _ _ (by rw[List.all_cons,hd,h];rfl)
theorem Oz{l:List UInt8} (h: ∀x,x∈l→Da x=true):l.flatMap Em=l:=by
  induction l with
  |nil=>rfl
  | cons c l ih=>
    rw[List.flatMap_cons,ih fun x hx=>h x (by simp[hx])]
    unfold Em;rw[if_pos (h c (by simp))];rfl
theorem VR (n:Nat): ∀x,x∈fmtS n→Da x=true:=fun x hx=>List.all_eq_true.1 (AEa 20 n [] rfl) x hx
theorem APN{h:List UInt8} (p:Int) (hh: ∀x,x∈h→Da x=true):idA h p=(hpF h p).flatMap Em:=by
  unfold idA hpF
  split
  · rw[Oz hh]
  · rw[List.flatMap_append,List.flatMap_append,Oz hh,Oz (VR _),List.append_assoc];rfl
theorem AMm (b:UInt8) (t:List UInt8):H9 (Ms (b.toNat / 16)::Ms (b.toNat % 16)::t)=some b:=by
  have key:=Ba (f:=fun n=>decide (H9 [Ms (n / 16),Ms (n % 16)]=some (UInt8.ofNat n))) (g:=fun _=>true) (by kernel_rfl) b
  simp only[decide_eq_true_eq,UInt8.ofNat_toNat]at key
  rw[←key];rfl
theorem ASF (b:UInt8) (t:List UInt8):unS (Ho b++t)=(unS t).map ((true,b):: ·):=by
  change un _ (37::Ms (b.toNat / 16)::Ms (b.toNat % 16)::t)=_
  rw[un,if_pos rfl,AMm]
  simp only[List.drop_succ_cons,List.drop_zero]
  rw[AFc (by simp only[Ho,List.length_append,List.length_cons,List.length_nil];omega)]
theorem AT2{b:UInt8} (h:b≠37) (t:List UInt8):unS ([b]++t)=(unS t).map ((false,b):: ·):=by
  change un _ (b::t)=_
  rw[un,if_neg h,AFc (by simp only[List.length_append,List.length_cons,List.length_nil];omega)]
theorem AMU: ∀l:List UInt8,unS (l.flatMap Em)=some (l.map fun b=>(!Da b,b))
  |[]=>rfl
  | b::l=>by
    rw[List.flatMap_cons,List.map_cons]
    have ih:=AMU l
    cases hp:Da b
    · rw[show Em b=Ho b by unfold Em;rw[hp];rfl,ASF,ih];rfl
    · rw[show Em b=[b] by unfold Em;rw[hp];rfl,AT2 (Po hp).2.2.2.2.1,ih];rfl
theorem APL (b:UInt8):(Ho b).all P5=true:=by
  have key:=Ba (f:=fun n=>([37,Ms (n / 16),Ms (n % 16)]:List UInt8).all P5) (g:=fun _=>true) (by kernel_rfl) b
  exact key
theorem AHv (l:List UInt8):(l.flatMap Em).all P5=true:=by
  rw[List.all_eq_true]
  intro x hx
  obtain⟨b,_,hb⟩:=List.mem_flatMap.1 hx
  unfold Em at hb
  split at hb
  · rename_i hp
    rcases List.mem_singleton.1 hb with rfl
    unfold P5;rw[hp];rfl
  · exact List.all_eq_true.1 (APL b) x hb
theorem ADH (l:List UInt8):(l.flatMap Em).contains 58=false:=by
  cases h:(l.flatMap Em).contains 58
  · rfl
  · have:=List.all_eq_true.1 (AHv l) 58 (by simpa using h)
    exact absurd this (by decide)
theorem AHu{l:List UInt8} (hb:(l.flatMap Em).length≤16000) (hN:20000≤N):Dk N (l.flatMap Em)=(l,0):=by
  rw[OY hb hN,AMU]
  simp only[List.map_map]
  congr 1
  conv=>rhs;rw[←List.map_id l]
  congr 1
theorem SL{c:UInt8}{l:List UInt8} (h:l.contains c=false):AP c l=[l]:=by rw[IC,MU h];rfl
theorem TG: ∀(ps:List (List UInt8)) (e:List UInt8),e.contains 58=false→(∀p,p∈ps→p.contains 58=false)→AP 58 (e++ps.flatMap fun p=>58::p)=e::ps
  |[],e,he,_=>by rw[List.flatMap_nil,List.append_nil,SL he]
  | p::ps,e,he,h=>by
    rw[List.flatMap_cons,List.cons_append,QU,SL he,TG ps p (h p (by simp)) fun q hq=>h q (by simp[hq])]
    rfl
theorem AJs (hN:20000≤N){I:List UInt8} (hb:I.length≤16000){ps:List (List UInt8)} (hs:AP 58 I=ps.map fun l=>l.flatMap Em) (hne: ∀l,l∈ps→l≠ []):(Kg I).2=0∧Ze (Kg I).1=false:=by
  have hpt:=Ed 58 I
  have hdk:(AP 58 I).all (OD N)=true:=by
    rw[List.all_eq_true]
    intro p hp
    have hl:=hpt p hp
    rw[hs]at hp
    obtain⟨l,hl',rfl⟩:=List.mem_map.1 hp
    unfold OD;rw[AHu (by omega) hN];rfl
  have hok:((AP 58 I).all fun p=>p.all P5)=true:=by
    rw[List.all_eq_true]
    intro p hp
    rw[hs]at hp
    obtain⟨l,hl',rfl⟩:=List.mem_map.1 hp
    exact AHv l
  obtain⟨r1,r2⟩:=VT (N:=N) hN I.length I (Nat.le_refl _) hb
  unfold Kg
  cases hu:unS I with
  |none=>rw[r1 hu]at hdk;cases hdk
  | some us=>
    obtain⟨_,q2,q3⟩:=r2 us hu
    rw[hok]at q2
    simp only
    rw[if_pos q2.symm]
    refine⟨rfl,?_⟩
    dsimp only
    rw[←q3 q2.symm,AGa _ _ (Bo 58 I)]
    have hm:=List.getLast_mem (Bo 58 I)
    have hdl:=List.all_eq_true.1 hdk _ hm
    have hl:=hpt _ hm
    rw[AD9 (by omega) hN hdl]
    have hm':(AP 58 I).getLast (Bo 58 I)∈ps.map fun l=>l.flatMap Em:=by rw[←hs];exact hm
    obtain⟨l,hl',he⟩:=List.mem_map.1 hm'
    have hne:=hne l hl'
    rw[←he]
    cases l with
    |nil=>exact absurd rfl hne
    | cons b l=>
      have:=(I7 b).2
      cases hq:Em b with
      |nil=>rw[hq]at this;simp at this
      |cons y ys=>simp[hq]
theorem ANI{I:List UInt8} (hl:(Gj ⟨Fy,I⟩).length≤4096) (h1:(Kg I).2=0) (h2:Ze (Kg I).1=false):(H8 (Gj ⟨Fy,I⟩)).2=0:=by
  obtain⟨k1,k2,k3⟩:=PG I
  unfold H8
  rw[if_neg (by omega),k1,k2]
  dsimp only
  rw[if_neg (by decide),if_neg (by decide),if_neg (by decide),if_neg (by rw[h1];decide),h2]
  rfl
theorem APS{U:ApiURI} (h:(Yb N U).2=0):((hpS U.authority).2 !=0)=false∧(Yb N U).1.host=(hpS U.authority).1.host∧(Yb N U).1.port=(hpS U.authority).1.port:=by
  unfold Yb at h⊢
  split at h
  · cases h
  rename_i h1;rw[if_neg h1]
  split at h
  · cases h
  rename_i h2;rw[if_neg h2]
  split at h
  · rename_i h3;dsimp only at h;rw[h]at h3;cases h3
  rename_i h3;rw[if_neg h3]
  split at h
  · rename_i h4;dsimp only at h;rw[h]at h4;cases h4
  rename_i h4;rw[if_neg h4]
  split at h
  · rename_i h5;dsimp only at h;rw[h]at h5;cases h5
  rename_i h5;rw[if_neg h5]
  split at h
  · rename_i h6;dsimp only at h;rw[h]at h6;cases h6
  rename_i h6;rw[if_neg h6]
  split at h
  · cases h
  rename_i h7;rw[if_neg h7]
  exact⟨by simpa using h3,rfl,rfl⟩
theorem AJU{u:ApiURL} (h:MP N u=true):Yb N (La MR (UW u))=(u,0):=by
  unfold MP at h
  split at h
  rotate_left
  · cases h
  rename_i h0
  have hu:=AS4 h
  have hp:(OJ N MR (UW u)).2=0:=by simpa using h0
  unfold OJ at hu hp
  split at hp
  · cases hp
  rename_i hl
  rw[if_neg hl]at hu
  exact Prod.ext hu.symm hp
theorem AQL{h:List UInt8}{p:Int}{q:List UInt8} (hh: ∀x,x∈h→Da x=true):(La MR (UW (EC h p (47::q)))).authority=hpF h p:=by
  have hF: ∀x,x∈hpF h p→x≠35∧x≠63∧x≠47:=by
    intro x hx
    unfold hpF at hx
    split at hx
    · obtain⟨a,b,c,_⟩:=Po (hh x hx);exact⟨a,b,c⟩
    · simp only[List.mem_append,List.mem_singleton]at hx
      rcases hx with(hx|hx)|hx
      · obtain⟨a,b,c,_⟩:=Po (hh x hx);exact⟨a,b,c⟩
      · subst hx;decide
      · obtain⟨a,b,c,_⟩:=Po (VR _ x hx);exact⟨a,b,c⟩
  have e:UW (EC h p (47::q))=([47,47]++(hpF h p++[47]))++q:=by
    have:UW (EC h p (47::q))=[47,47]++(hpF h p++((47::q)++[])):=rfl
    rw[this];simp
  have hne: ∀c:UInt8,(c=35∨c=63)→ ∀x,x∈([47,47]++(hpF h p++[47]):List UInt8)→x≠c:=by
    intro c hc x hx
    simp only[List.mem_append,List.mem_cons,List.not_mem_nil,or_false]at hx
    rcases hx with(hx|hx)|hx|hx
    · subst hx;rcases hc with rfl|rfl<;>decide
    · subst hx;rcases hc with rfl|rfl<;>decide
    · obtain⟨a,b,_⟩:=hF x hx
      rcases hc with rfl|rfl<;>assumption
    · subst hx;rcases hc with rfl|rfl<;>decide
  unfold La
  dsimp only
  rw[e,Rk _ _ (hne 35 (.inl rfl))]
  dsimp only
  rw[Rk _ _ (hne 63 (.inr rfl))]
  dsimp only
  generalize (AY 63 (AY 35 q).1).1=z
  unfold Lc
  rw[if_pos (by rfl)]
  dsimp only
  have:([47,47]++(hpF h p++[47])++z:List UInt8).drop 2=hpF h p++47::z:=by simp
  rw[this,List.takeWhile_append_of_pos (fun x hx=>by simpa using(hF x hx).2.2)]
  simp
theorem AJN (xs:List (List UInt8)): ∃q,GQ N xs=47::q:=by
  unfold GQ
  split
  · exact⟨_,rfl⟩
  · cases xs with
    |nil=>exact⟨_,rfl⟩
    |cons x xs=>exact⟨_,rfl⟩
theorem round{h:List UInt8}{p:Int}{q:List UInt8} (hN:20000≤N) (hq:q.length≤5000) (hv:(Pq N (EC h p (47::q))).2=0):Bt N (Pq N (EC h p (47::q))).1=(⟨h,p⟩,0):=by
  have hw:=M4 47 (47::q)
  have hw1:=PR (AP 47 (47::q))
  rw[List.length_cons]at hw
  unfold Pq at hv⊢
  split at hv
  rotate_left
  · cases hv
  rename_i hval
  rw[if_pos hval]
  have hw:=AJU hval
  obtain⟨w1,w2,w3⟩:=APS (N:=N) (U:=La MR (UW (EC h p (47::q)))) (by rw[hw])
  rw[hw]at w2 w3
  obtain⟨c1,c2⟩:=AOJ w1
  have hh: ∀x,x∈h→Da x=true:=by
    change h=_ at w2
    rw[←w2]at c2;exact c2
  have hn:h≠ []:=by
    change h=_ at w2
    rw[w2];exact c1
  rw[AQL hh]at w1 w2 w3
  have hp:hpS (hpF h p)=(⟨h,p⟩,0):=by
    refine Prod.ext ?_ (by simpa using w1)
    change h=_ at w2
    change p=_ at w3
    cases hx:(hpS (hpF h p)).1
    rw[hx]at w2 w3
    rw[w2,w3]
  have hFn:hpF h p≠ []:=by
    unfold hpF;split
    · exact hn
    · simp
  have main: ∀xs:List (List UInt8),(∀x,x∈xs→(Dk N x).1≠ [])→(Gj ⟨Fy,idA h p++xs.flatMap (IW N)⟩).length≤4096→Bt N ⟨Fy,idA h p++xs.flatMap (IW N)⟩=(⟨h,p⟩,0):=by
    intro xs hx hl
    have hsp:AP 58 (idA h p++xs.flatMap (IW N))=(hpF h p::xs.map fun x=>(Dk N x).1).map fun l=>l.flatMap Em:=by
      have e:xs.flatMap (IW N)=(xs.map fun x=>(Dk N x).1.flatMap Em).flatMap fun p=>58::p:=by
        rw[List.flatMap_map];rfl
      rw[e,APN p hh,TG _ _ (ADH _) (fun y hy=>by obtain⟨x,_,rfl⟩:=List.mem_map.1 hy;exact ADH _),List.map_cons,List.map_map]
      rfl
    have hI:(idA h p++xs.flatMap (IW N)).length≤4096:=by
      have:=(PG (idA h p++xs.flatMap (IW N))).2.2
      omega
    obtain⟨r1,r2⟩:=AJs hN (by omega) hsp (fun l hl=>by
      rcases List.mem_cons.1 hl with rfl|hl
      · exact hFn
      · obtain⟨x,hx',rfl⟩:=List.mem_map.1 hl
        exact hx x hx')
    have hd:=ANI hl r1 r2
    have hcut:(AY 58 (idA h p++xs.flatMap (IW N))).1=(hpF h p).flatMap Em:=by
      have:=Sg 58 (idA h p++xs.flatMap (IW N))
      rw[hsp]at this
      simpa using this.symm
    unfold Bt
    rw[if_neg (show¬((Fy==Fy)=false) by decide),if_neg (by rw[hd];decide),hcut,AHu (by
      have:=Ed 58 (idA h p++xs.flatMap (IW N)) ((hpF h p).flatMap Em) (by rw[hsp];simp)
      omega) hN,hp]
  change (M8 N h p (47::q) ((AP 47 (47::q)).drop 1)).2=0 at hv
  change Bt N (M8 N h p (47::q) ((AP 47 (47::q)).drop 1)).1=_
  unfold M8 at hv⊢
  split at hv
  · cases hv
  rename_i h1;rw[if_neg h1]
  split at hv
  · cases hv
  rename_i h2;rw[if_neg h2]
  split at hv
  · rename_i h3
    rw[if_pos h3]
    split at hv
    · cases hv
    rename_i h4;rw[if_neg h4]
    have:=main [] (by simp) (by simpa using h4)
    simpa using this
  rename_i h3;rw[if_neg h3]
  split at hv
  · cases hv
  rename_i h5;rw[if_neg h5]
  split at hv
  · cases hv
  rename_i h6;rw[if_neg h6]
  refine main _ (fun x hx=>?_) (by change¬_>_ at h6;omega)
  have h5':((AP 47 (47::q)).drop 1).dropLast.any (OH N)=false:=by simpa using h5
  have:=List.any_eq_false.1 h5' x hx
  unfold OH at this
  simp only[Bool.or_eq_true,not_or]at this
  simpa using this.2
theorem AIu{d:ApiDID} (hN:20000≤N) (h:(OC N d).2=0):((Bt N (OC N d).1).2 !=0)=false:=by
  unfold OC at h⊢
  split at h
  · rename_i h0;dsimp only at h;rw[h]at h0;cases h0
  rename_i h0
  rw[if_neg h0]
  have hb:=Rl h0
  rw[(Vi h0).1]at h⊢
  obtain⟨q,hq⟩:=AJN (N:=N) ((AP 58 d.iD).drop 1)
  rw[hq]at h hb⊢
  rw[List.length_cons]at hb
  rw[round hN (by omega) h]
  rfl
end
end Go.VM
