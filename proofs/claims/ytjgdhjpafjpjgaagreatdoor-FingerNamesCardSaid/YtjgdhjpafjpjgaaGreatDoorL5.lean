import Derived.Test.YtjgdhjpafjpjgaaGreatDoorL4
set_option linter.unusedVariables false
set_option linter.unusedSimpArgs false
namespace Go.VM
section
variable{N:Nat}
theorem AGn (c:UInt8): ∀(n:Nat) (l:List UInt8),l.length≤n→((AU c l).map List.length).sum+(AU c l).length=l.length+1:=by
  intro n
  induction n with
  | zero=>
    intro l hl
    have:l=[]:=List.eq_nil_of_length_eq_zero (by omega)
    subst this;rfl
  | succ n ih=>
    intro l hl
    cases l with
    |nil=>rfl
    | cons x t=>
      simp only[List.length_cons]at hl
      have:=ih t (by omega)
      rw[AU]
      split
      · simp only[List.map_cons,List.sum_cons,List.length_cons,List.length_nil];omega
      · cases hs:AU c t with
        |nil=>exact absurd hs (Br c t)
        | cons p ps=>
          rw[hs]at this
          simp only[List.map_cons,List.sum_cons,List.length_cons]at this⊢;omega
theorem Vj{l:List (List UInt8)} (hne:l≠ []) (hb:l.length≤1000000):idx l (wr .i64 ((l.length:Int)-1))=some (l.getLast hne):=by
  have:0<l.length:=List.length_pos_iff.2 hne
  rw[show wr .i64 ((l.length:Int)-1)=((l.length-1:Nat):Int) by rw[BH (by omega)];omega,IR,←List.getLast?_eq_getElem?,List.getLast?_eq_some_getLast hne]
theorem AB8{p:List UInt8} (hb:p.length≤16000) (hN:20000≤N) (hk:Om N p=true):(IM N p==[])=(p==[]):=by
  unfold Om at hk
  rw[PH hb hN]at hk
  cases hu:unS p with
  |none=>rw[hu]at hk;exact absurd hk (by decide)
  | some u=>
    have hn:=ASy hu
    unfold IM
    rw[PH hb hN,hu]
    cases u with
    |nil=>have:=hn.1 rfl;subst this;rfl
    | cons v u=>
      have hp:p≠ []:=fun e=>by have:=hn.2 e;cases this
      have h1:=(JL v.2).2
      cases hq:E9 v.2 with
      |nil=>rw[hq]at h1;simp at h1
      | cons y ys=>
        simp only[List.map_cons,List.flatMap_cons,hq]
        cases p with
        |nil=>exact absurd rfl hp
        |cons _ _=>rfl
theorem AIb (s:List UInt8) (hb:s.length≤1000000) (hN:20000≤N):Ff N s=some (Ib s):=by
  unfold Ff Ib
  by_cases h1:s.length>4096
  · rw[if_pos (by simp;omega),if_pos h1];rfl
  rw[if_neg (by simp;omega),if_neg h1,Oc,Option.bind_some]
  cases hp:preB [100,105,100,58] s
  · rfl
  have h4:=KY hp
  simp only[List.length_cons,List.length_nil]at h4
  have hl:=FD 58 (s.drop 4)
  have hdl:(s.drop 4).length≤1000000:=by rw[List.length_drop];omega
  rw[List.length_drop]at hl
  simp only[if_true]
  rw[if_neg (by decide: ¬(true=false)),show sub s 4 (s.length:Int)=some (s.drop 4)from Bi (n:=4) (by omega),Option.bind_some,ARt 58 _ hdl,Option.bind_some,QI,Oh]
  cases hc:(s.drop 4).contains 58
  · rfl
  obtain⟨s1,s2⟩:=Px hc hdl
  simp only[Bool.not_true,Bool.false_eq_true,if_false]
  rw[if_neg (by decide: ¬(true=false)),s1,Option.bind_some,AMD _ (by omega),Option.bind_some]
  cases hm:Sk (Aa 58 (s.drop 4)).1
  · rfl
  simp only[if_true]
  rw[if_neg (by decide: ¬(true=false)),s2,Option.bind_some,show(58:Int)=AL 58 from rfl,Km _ 58 (by omega),Option.bind_some]
  generalize (Aa 58 (s.drop 4)).1=m at *
  have hd:(Aa 58 (s.drop 4)).2.1.length≤4096:=by omega
  generalize (Aa 58 (s.drop 4)).2.1=d at *
  have hsl:=FV 58 d
  have hsp:=Eo 58 d
  have hne:=Br 58 d
  obtain⟨r1,r2⟩:=AAW (N:=N) hN d.length d (Nat.le_refl _) (by omega)
  dsimp only[AJ]
  rw[BL (by omega),rd1 hN]
  unfold Kz
  cases hu:unS d with
  | none=>
    rw[r1 hu];rfl
  | some us=>
    obtain⟨q1,q2,q3⟩:=r2 us hu
    simp only
    rw[q1,if_pos rfl,BL (by omega),rd2 hN _ _ 0 [] (by omega) (fun p h=>by have:=hsp p h;omega) (by simp;omega),q2]
    cases hk:us.all okD
    · rfl
    simp only[if_true]
    rw[if_neg (by decide),List.nil_append]
    simp only[decide_true]
    rw[q3 hk,Vj hne (by omega),Option.bind_some]
    have hlast:Om N ((AU 58 d).getLast hne)=true:=List.all_eq_true.1 q1 _ (List.getLast_mem hne)
    have hll:((AU 58 d).getLast hne).length≤16000:=by have:=hsp _ (List.getLast_mem hne);omega
    have he:=AHY (N:=N) (AU 58 d) true hne
    rw[q3 hk,AB8 hll hN hlast]at he
    rw[he]
    cases ((AU 58 d).getLast hne==[])<;>rfl
def Gx (d:ApiDID):List UInt8:=(([100,105,100,58]++d.method)++[58])++d.iD
theorem S9 (d:ApiDID) (h:d.method.length≤1000000∧d.iD.length≤1000000):Dx N d=some (Gx d):=by
  unfold Dx Gx
  rw[BL (by simp;omega),BL (by simp;omega),BL (by simp;omega)]
theorem Tw (d:ApiDID) (h:d.method.length≤1000000∧d.iD.length≤1000000):De N d=some (Gx d):=by
  unfold De Gx
  rw[BL (by simp;omega),BL (by simp;omega),BL (by simp;omega)]
theorem AC3 (s:List UInt8):(Ib s).1.method.length≤4096∧(Ib s).1.iD.length≤12288:=by
  have hl:=FD 58 (s.drop 4)
  have hc:=AEU (Aa 58 (s.drop 4)).2.1
  rw[List.length_drop]at hl
  unfold Ib
  split
  · simp[IK]
  split
  · simp[IK]
  split
  · simp[IK]
  split
  · simp[IK]
  split
  · simp[IK]
  split
  · simp[IK]
  · dsimp only;omega
end
end Go.VM
namespace Go.VM
section
variable{N:Nat}
def GL:List UInt8:=[119,101,98]
def hp0:ApiHostPort:=⟨[],0⟩
def CE (N:Nat) (d:ApiDID):ApiHostPort×Int:=
  if(d.method==GL)=false then(hp0,100)
  else if((Ib (Gx d)).2 !=0)=true then(hp0,(Ib (Gx d)).2)
  else hpS (Dw N (Aa 58 d.iD).1).1
theorem Py (i:List UInt8):preB [100,105,100,58] (Gx ⟨GL,i⟩)=true∧Aa 58 ((Gx ⟨GL,i⟩).drop 4)=(GL,i,true)∧(Gx ⟨GL,i⟩).length=i.length+8:=by
  have h4:(Gx ⟨GL,i⟩).drop 4=GL++58::i:=rfl
  refine⟨rfl,?_,by unfold Gx;simp[GL]⟩
  rw[h4,EN (by simp[GL])]
  rfl
theorem ANy{i:List UInt8} (h:(Ib (Gx ⟨GL,i⟩)).2=0):(Kz i).2=0∧i.length≤4088:=by
  obtain⟨h1,h2,h3⟩:=Py i
  unfold Ib at h
  rw[h1,h2]at h
  split at h
  · cases h
  rename_i hl
  rw[h3]at hl
  rw[if_neg (by decide)]at h
  simp only[Bool.true_eq_false,if_false]at h
  rw[if_neg (by decide)]at h
  split at h
  · rename_i hc;rw[h]at hc;exact absurd hc (by decide)
  · rename_i hc
    exact⟨by simpa using hc,by omega⟩
theorem ATo{i:List UInt8} (h:(Kz i).2=0): ∃us,unS i=some us∧us.all okD=true:=by
  unfold Kz at h
  cases hu:unS i with
  |none=>rw[hu]at h;cases h
  | some us=>
    rw[hu]at h
    simp only at h
    split at h
    · rename_i hk;exact⟨us,rfl,hk⟩
    · cases h
theorem Tt (c:UInt8) (l:List UInt8):(AU c l)[0]?=some (Aa c l).1:=by
  rw[Ie];split<;>rfl
theorem AKP{i:List UInt8} (h:(Kz i).2=0) (hb:i.length≤16000) (hN:20000≤N):((Dw N (Aa 58 i).1).2 !=0)=false:=by
  obtain⟨us,hu,_⟩:=ATo h
  obtain⟨_,r2⟩:=AAW (N:=N) hN i.length i (Nat.le_refl _) hb
  obtain⟨q1,_⟩:=r2 us hu
  have hm:(Aa 58 i).1∈AU 58 i:=List.mem_of_getElem? (Tt 58 i)
  have:=List.all_eq_true.1 q1 _ hm
  unfold Om at this
  simp[bne,this]
theorem Vo (d:ApiDID) (hm:d.method.length≤4096) (hi:d.iD.length≤16000) (hN:20000≤N):Ex N d=some (CE N d):=by
  have hc:=FD 58 d.iD
  have hdl:=Fb (N:=N) (Aa 58 d.iD).1
  have hfl:(Gx d).length≤100000:=by unfold Gx;simp;omega
  unfold Ex CE
  change (if(d.method==GL)=true then _ else _)=_
  cases hw:(d.method==GL)
  · rfl
  rw[if_pos rfl,if_neg (by decide: ¬(true=false)),S9 d (by omega),Option.bind_some,AIF _ (by omega) hN,Option.bind_some]
  by_cases h:((Ib (Gx d)).2 !=0)=true
  · rw[if_pos h,if_pos h];rfl
  have hd:d=⟨GL,d.iD⟩:=by
    have:=beq_iff_eq.1 hw
    cases d;simp only at this;rw[this]
  have h0:(Ib (Gx ⟨GL,d.iD⟩)).2=0:=by rw[←hd];simpa using h
  obtain⟨k1,k2⟩:=ANy h0
  rw[if_neg h,if_neg h,Ms 58 _ (by omega),Option.bind_some,Kw _ hN,Option.bind_some,AKP k1 (by omega) hN,if_neg (by decide),AM8 _ (by omega) (by omega),Option.bind_some]
theorem VY (d:ApiDID) (hm:d.method.length≤4096) (hi:d.iD.length≤16000) (hN:20000≤N):
    Im N d=some (if(d.method==GL)=false then([],hp0,100)else if((Ib (Gx d)).2 !=0)=true then([],hp0,(Ib (Gx d)).2)else(AU 58 d.iD,(CE N d).1,(CE N d).2)):=by
  have hc:=FD 58 d.iD
  have hdl:=Fb (N:=N) (Aa 58 d.iD).1
  have hfl:(Gx d).length≤100000:=by unfold Gx;simp;omega
  unfold Im
  change (if(d.method==GL)=true then _ else _)=_
  cases hw:(d.method==GL)
  · rfl
  rw[if_pos rfl,if_neg (by decide: ¬(true=false)),Tw d (by omega),Option.bind_some,AIb _ (by omega) hN,Option.bind_some]
  by_cases h:((Ib (Gx d)).2 !=0)=true
  · rw[if_pos h,if_pos h];rfl
  rw[if_neg h,if_neg h,show(58:Int)=AL 58 from rfl,Km _ 58 (by omega),Option.bind_some,show(0:Int)=((0:Nat):Int)from rfl,IR,Tt,Option.bind_some,Jg _ hN,Option.bind_some,AOj _ (by omega),Option.bind_some]
  unfold CE
  rw[if_neg (by rw[hw];decide),if_neg h]
theorem AJ1 (d:ApiDID) (hm:d.method.length≤4096) (hi:d.iD.length≤16000) (hN:20000≤N):GM N d=some (CE N d):=by
  unfold GM
  rw[VY d hm hi hN,Option.bind_some]
  unfold CE
  split
  · rfl
  split
  · rfl
  · rfl
def upT (N:Nat) (x:List UInt8):List UInt8:=47::(Dw N x).1.flatMap (Hy [])
def upB (N:Nat) (x:List UInt8):Bool:=(Dw N x).1==[]||((Dw N x).1==[46]||(Dw N x).1==[46,46])
theorem AD6{s:List UInt8} (hN:20000≤N) (h:((Dw N s).2 !=0)=true):(Dw N s).1=[]:=by
  unfold Dw at *
  split
  · rfl
  · rename_i hs
    rw[if_neg hs,Qu N s [] (by omega)]at h
    rw[Qu N s [] (by omega)]
    cases hu:un N s with
    |none=>rfl
    |some us=>rw[hu]at h;exact absurd h (by simp)
theorem AUs (e:Int) (x:List UInt8) (hb:x.length≤100000) (hN:20000≤N):F3 N ⟨e⟩ x=some (upT N x,⟨if upB N x=true then 110 else e⟩):=by
  have hd:=Fb (N:=N) x
  have he:=Li [] (Dw N x).1
  have hg: ∀v:Option (List UInt8×DidwebMapper),grd (AV (([47]:List UInt8).length+((Dw N x).1.flatMap (Hy [])).length)) v=v:=fun v=>BL (by simp only[List.length_cons,List.length_nil];omega)
  unfold F3 upB upT
  rw[Kw _ hN,Option.bind_some]
  dsimp only[AJ]
  rw[PW _ _ (by omega)]
  simp only[Option.bind_some,hg]
  by_cases h:((Dw N x).2 !=0)=true
  · rw[if_pos h,AD6 hN h];rfl
  · rw[if_neg h]
    cases ((Dw N x).1==[])<;>cases ((Dw N x).1==[46])<;>cases ((Dw N x).1==[46,46])<;>rfl
end
end Go.VM
namespace Go.VM
section
variable{N:Nat}
theorem AAe (x:List UInt8):(upT N x).length≤3 * x.length+1:=by
  have hd:=Fb (N:=N) x
  have he:=Li [] (Dw N x).1
  unfold upT;rw[List.length_cons];omega
def wS (xs:List (List UInt8)):Nat:=(xs.map List.length).sum+xs.length
theorem KZ (x:List UInt8) (xs:List (List UInt8)):wS (x::xs)=x.length+1+wS xs:=by
  unfold wS;rw[List.map_cons,List.sum_cons,List.length_cons];omega
theorem Qp (xs:List (List UInt8)):wS (xs.drop 1)≤wS xs:=by
  cases xs with
  |nil=>exact Nat.le_refl _
  |cons x xs=>rw[KZ];simp only[List.drop_succ_cons,List.drop_zero];omega
theorem OC (c:UInt8) (l:List UInt8):wS (AU c l)=l.length+1:=AGn c _ l (Nat.le_refl _)
theorem SN: ∀xs:List (List UInt8),(xs.flatMap (upT N)).length≤3 * wS xs
  |[]=>by simp
  | x::xs=>by
    have:=AAe (N:=N) x
    have:=SN xs
    rw[List.flatMap_cons,List.length_append,KZ];omega
theorem P8 (hN:20000≤N) (k:Bool×List UInt8×DidwebMapper→Option (List UInt8×DidwebMapper)): ∀(xs:List (List UInt8)) (d:Bool) (b:List UInt8) (e:Int),b.length+3 * wS xs≤300000→
    Af N k xs d b ⟨e⟩=k (d||!xs.isEmpty,b++xs.flatMap (upT N),⟨if xs.any (upB N)=true then 110 else e⟩)
  | [],d,b,e,_=>by
    rw[Af];simp
  | x::xs,d,b,e,h=>by
    have hu:=AAe (N:=N) x
    rw[KZ]at h
    rw[Af,AUs _ _ (by omega) hN,Option.bind_some]
    dsimp only
    rw[TF _ _ _ (by omega),Option.bind_some]
    dsimp only
    rw[P8 hN k xs _ _ _ (by rw[List.length_append];omega),List.flatMap_cons,List.any_cons,List.append_assoc]
    cases upB N x<;>cases xs.any (upB N)<;>simp
theorem AHN (xs:List (List UInt8)) (e:Int) (h:wS xs≤100000) (hN:20000≤N):CF N xs ⟨e⟩=some (xs.flatMap (upT N),⟨if xs.any (upB N)=true then 110 else e⟩):=by
  unfold CF
  dsimp only[AJ]
  have:xs.length≤wS xs:=by unfold wS;omega
  rw[BL (by omega),P8 hN _ _ _ _ _ (by simp;omega)]
  rfl
def KV:List UInt8:=[47,46,119,101,108,108,45,107,110,111,119,110,47,100,105,100,46,106,115,111,110]
def AHD:List UInt8:=[47,100,105,100,46,106,115,111,110]
def Gh (N:Nat) (xs:List (List UInt8)):List UInt8:=if xs=[]then KV else xs.flatMap (upT N)++AHD
def EP (h:List UInt8) (p:Int) (path:List UInt8):ApiURL:=⟨h,p,path,[],[],false,false⟩
def toS (N:Nat) (d:ApiDID):ApiURL×Int:=
  if((CE N d).2 !=0)=true then(LB,(CE N d).2)
  else if((AU 58 d.iD).drop 1).any (upB N)=true then(LB,110)
  else if(KQ (EP (CE N d).1.host (CE N d).1.port (Gh N ((AU 58 d.iD).drop 1)))).length>4096 then(LB,5)
  else(EP (CE N d).1.host (CE N d).1.port (Gh N ((AU 58 d.iD).drop 1)),0)
theorem MZ (d:ApiDID):GI (CE N d).1.port∧(CE N d).1.host.length≤253:=by
  unfold CE
  split
  · exact⟨by unfold GI hp0;simp,by simp[hp0]⟩
  split
  · exact⟨by unfold GI hp0;simp,by simp[hp0]⟩
  · exact⟨Yf _,SH _⟩
theorem Tc (xs:List (List UInt8)):(Gh N xs).length≤3 * wS xs+21:=by
  have:=SN (N:=N) xs
  unfold Gh
  split
  · simp[KV]
  · simp[AHD]at *;omega
theorem AIL{l:List (List UInt8)} (h:l≠ []) (hb:l.length≤1000000):sub l 1 (l.length:Int)=some (l.drop 1):=by
  have:0<l.length:=List.length_pos_iff.2 h
  rw[show(1:Int)=((1:Nat):Int)from rfl,CV l 1 l.length (by omega) (Nat.le_refl _),List.take_of_length_le (by simp)]
theorem AQ4 (d:ApiDID) (hm:d.method.length≤4096) (hi:d.iD.length≤16000) (hN:20000≤N):I8 N d=some (toS N d):=by
  have hsl:=FV 58 d.iD
  have hne:=Br 58 d.iD
  have hw:=OC 58 d.iD
  have hw1:=Qp (AU 58 d.iD)
  obtain⟨a1,a2⟩:=MZ (N:=N) d
  have hpl:=Tc (N:=N) ((AU 58 d.iD).drop 1)
  unfold I8 toS
  rw[Vo d hm hi hN,Option.bind_some]
  by_cases h:((CE N d).2 !=0)=true
  · rw[if_pos h,if_pos h];rfl
  rw[if_neg h,if_neg h,RS _ 58 (by omega)]
  dsimp only[AJ]
  rw[Option.bind_some,AIL hne (by omega),Option.bind_some]
  generalize (AU 58 d.iD).drop 1=xs at *
  have fin: ∀P:List UInt8,P.length≤1000000→(Option.bind (Dc N (ApiURL.mk (CE N d).1.host (CE N d).1.port P [] [] false false)) fun y12=>
     if(decide ((y12.length:Int)>4096))=true then
      (some ((ApiURL.mk [] 0 [] [] [] false false),5):Option (ApiURL×Int))
     else
      some ((ApiURL.mk (CE N d).1.host (CE N d).1.port P [] [] false false),0))=some (if(KQ (EP (CE N d).1.host (CE N d).1.port P)).length>4096 then(LB,5)else(EP (CE N d).1.host (CE N d).1.port P,0)):=by
    intro P hP
    rw[Qk _ ⟨a1,by dsimp only;omega,by dsimp only;omega,by simp,by simp⟩ (by omega),Option.bind_some]
    unfold EP
    split
    · rename_i hx;rw[if_pos (by simp only[decide_eq_true_eq]at hx;omega)];rfl
    · rename_i hx;rw[if_neg (by simp only[decide_eq_true_eq]at hx;omega)]
  have hul:=SN (N:=N) xs
  cases xs with
  | nil=>
    rw[if_neg (by decide)]
    exact fin KV (by decide)
  | cons x xs=>
    rw[if_pos (by simp),AHN _ _ (by omega) hN,Option.bind_some,BL (by simp only[List.length_append,List.length_cons,List.length_nil];omega),BL (by simp only[List.length_append,List.length_cons,List.length_nil];omega)]
    by_cases hb:(x::xs).any (upB N)=true
    · rw[if_pos hb,if_pos hb];rfl
    · rw[if_neg hb,if_neg hb]
      dsimp only
      rw[if_neg (by decide)]
      have e:((x::xs).flatMap (upT N)++[47])++[100,105,100,46,106,115,111,110]=Gh N (x::xs):=by
        unfold Gh AHD
        rw[if_neg (by simp),List.append_assoc];rfl
      rw[←e]at hpl
      rw[fin _ (by omega),e]
theorem AEt (hN:20000≤N) (k:List UInt8→Option (ApiURL×Int)): ∀(xs:List (List UInt8)) (acc:List UInt8),acc.length+3 * wS xs≤300000→
    DI N k xs acc=if xs.any (upB N)=true then some (LB,110)else k (acc++xs.flatMap (upT N))
  |[],acc,_=>by rw[DI];simp
  | x::xs,acc,h=>by
    have hu:=AAe (N:=N) x
    have hd:=Fb (N:=N) x
    have he:=Li [] (Dw N x).1
    rw[KZ]at h
    rw[DI,Jg _ hN,Option.bind_some]
    dsimp only[AJ]
    rw[TU _ _ (by simp) (by omega)]
    have ih:=AEt hN k xs (acc++([47]++(Dw N x).1.flatMap (Hy []))) (by simp only[List.length_append,List.length_cons,List.length_nil];omega)
    have hg: ∀v:Option (ApiURL×Int),grd (AV (([47]:List UInt8).length+((Dw N x).1.flatMap (Hy [])).length)) v=v:=fun v=>BL (by simp only[List.length_cons,List.length_nil];omega)
    have hg2: ∀v:Option (ApiURL×Int),grd (AV (acc.length+(([47]:List UInt8)++(Dw N x).1.flatMap (Hy [])).length)) v=v:=fun v=>BL (by simp only[List.length_append,List.length_cons,List.length_nil];omega)
    have hup:upT N x=[47]++(Dw N x).1.flatMap (Hy []):=rfl
    rw[List.any_cons,List.flatMap_cons,hup,←List.append_assoc]
    rw[Option.bind_some,hg,hg2,ih]
    unfold upB
    cases ((Dw N x).1==[])<;>cases ((Dw N x).1==[46])<;>cases ((Dw N x).1==[46,46])<;>rfl
theorem APo (d:ApiDID) (hm:d.method.length≤4096) (hi:d.iD.length≤16000) (hN:20000≤N):J3 N d=some (toS N d):=by
  have hsl:=FV 58 d.iD
  have hne:=Br 58 d.iD
  have hw:=OC 58 d.iD
  have hw1:=Qp (AU 58 d.iD)
  obtain⟨a1,a2⟩:=MZ (N:=N) d
  have hpl:=Tc (N:=N) ((AU 58 d.iD).drop 1)
  unfold J3 toS
  rw[VY d hm hi hN,Option.bind_some]
  by_cases h1:(d.method==GL)=false
  · have e:CE N d=(hp0,100):=by unfold CE;rw[if_pos h1]
    rw[if_pos h1,e];rfl
  by_cases h2:((Ib (Gx d)).2 !=0)=true
  · have e:CE N d=(hp0,(Ib (Gx d)).2):=by unfold CE;rw[if_neg h1,if_pos h2]
    rw[if_neg h1,if_pos h2,e]
    dsimp only
    rw[if_pos h2,if_pos h2];rfl
  rw[if_neg h1,if_neg h2]
  dsimp only
  by_cases h:((CE N d).2 !=0)=true
  · rw[if_pos h,if_pos h];rfl
  rw[if_neg h,if_neg h]
  dsimp only[AJ]
  rw[AIL hne (by omega),Option.bind_some]
  have hone:((((AU 58 d.iD).length:Nat):Int)==1)=decide ((AU 58 d.iD).drop 1=[]):=by
    have:0<(AU 58 d.iD).length:=List.length_pos_iff.2 hne
    by_cases hq:(AU 58 d.iD).drop 1=[]
    · have:=List.drop_eq_nil_iff.1 hq
      rw[decide_eq_true hq];simp;omega
    · rw[decide_eq_false hq]
      have: ¬(AU 58 d.iD).length≤1:=fun hh=>hq (List.drop_eq_nil_iff.2 hh)
      simp;omega
  rw[hone]
  generalize (AU 58 d.iD).drop 1=xs at *
  have hxl:xs.length≤wS xs:=by unfold wS;omega
  have hul:=SN (N:=N) xs
  rw[BL (by omega),AEt hN _ _ _ (by simp;omega)]
  by_cases hb:xs.any (upB N)=true
  · rw[if_pos hb,if_pos hb]
  rw[if_neg hb,if_neg hb,List.nil_append]
  have fin: ∀Q:List UInt8,Q++AHD=Gh N xs→(grd (AV (Q.length+([47,100,105,100,46,106,115,111,110]:List UInt8).length)) (
    Option.bind (Df N (ApiURL.mk (CE N d).1.host (CE N d).1.port (Q++([47,100,105,100,46,106,115,111,110]:List UInt8)) [] [] false false)) fun y12=>
     if(decide ((y12.length:Int)>4096))=true then
      (some ((ApiURL.mk [] 0 [] [] [] false false),5):Option (ApiURL×Int))
     else
      some ((ApiURL.mk (CE N d).1.host (CE N d).1.port (Q++([47,100,105,100,46,106,115,111,110]:List UInt8)) [] [] false false),0)))=some (if(KQ (EP (CE N d).1.host (CE N d).1.port (Gh N xs))).length>4096 then(LB,5)else(EP (CE N d).1.host (CE N d).1.port (Gh N xs),0)):=by
    intro Q hQ
    change grd _ (Option.bind (Df N (ApiURL.mk (CE N d).1.host (CE N d).1.port (Q++AHD) [] [] false false)) fun y12=>
     if(decide ((y12.length:Int)>4096))=true then
      (some ((ApiURL.mk [] 0 [] [] [] false false),5):Option (ApiURL×Int))
     else
      some ((ApiURL.mk (CE N d).1.host (CE N d).1.port (Q++AHD) [] [] false false),0))=_
    have hl:=congrArg List.length hQ
    rw[List.length_append]at hl
    rw[BL (by simp;omega),hQ,QV _ ⟨a1,by dsimp only;omega,by dsimp only;omega,by simp,by simp⟩ (by omega),Option.bind_some]
    unfold EP
    split
    · rename_i hx;rw[if_pos (by simp only[decide_eq_true_eq]at hx;omega)];rfl
    · rename_i hx;rw[if_neg (by simp only[decide_eq_true_eq]at hx;omega)]
  by_cases hq:xs=[]
  · subst hq
    rw[if_pos (by simp)]
    exact fin [47,46,119,101,108,108,45,107,110,111,119,110] (by unfold Gh;rw[if_pos rfl];rfl)
  · rw[if_neg (by simpa using hq)]
    exact fin _ (by unfold Gh;rw[if_neg hq])
end
end Go.VM
namespace Go.VM
section
variable{N:Nat}
def Mi:List UInt8:=[104,116,116,112,115]
theorem AEq:Gq Mi:=by unfold Gq;decide
def U2 (u:ApiURL):List UInt8:=[47,47]++(hpF u.host u.port++(Nu u++if u.hasFrag=true then [35]++u.fragment else []))
theorem ABg (u:ApiURL):KQ u=Mi++58::U2 u:=by
  unfold KQ U2 Mi
  split<;>simp
def eqU (u v:ApiURL):Bool:=u.host==v.host&&(u.port==v.port&&(u.path==v.path&&(u.query==v.query&&(u.fragment==v.fragment&&(u.hasQuery==v.hasQuery&&u.hasFrag==v.hasFrag)))))
theorem ATN{u v:ApiURL} (h:eqU u v=true):u=v:=by
  unfold eqU at h
  simp only[Bool.and_eq_true,beq_iff_eq]at h
  cases u;cases v;simp_all
def Mq (N:Nat) (u:ApiURL):Bool:=if((Oq N Mi (U2 u)).2==0)=true then eqU u (Oq N Mi (U2 u)).1 else false
theorem AJi (u:ApiURL) (h:Ue u) (hb:(KQ u).length≤1000000) (hN:20000≤N):JM N u=some (Mq N u):=by
  rw[ABg]at hb
  unfold JM Mq
  rw[Qk u h (by omega),Option.bind_some,ABg,AH6 AEq hb hN,Option.bind_some]
  split<;>rfl
theorem ALp (u:ApiURL) (h:Ue u) (hb:(KQ u).length≤1000000) (hN:20000≤N):KG N u=some (Mq N u):=by
  rw[ABg]at hb
  unfold KG Mq
  rw[QV u h (by omega),Option.bind_some,ABg,AIP AEq hb hN,Option.bind_some]
  split<;>rfl
def okU (c:UInt8):Bool:=c==37||C8 c
def Oj (N:Nat) (x:List UInt8):Bool:=!(x.all okU)||(Dw N x).1==[]
def Ih (N:Nat) (x:List UInt8):List UInt8:=58::(Dw N x).1.flatMap E9
theorem Q3 (k:Int→Option (List UInt8×DidwebMapper)): ∀(l:List UInt8) (e:Int),BK N k l e=k (if l.all okU=true then e else 110)
  |[],e=>by rw[BK];rfl
  | c::l,e=>by
    rw[BK]
    dsimp only[AJ]
    rw[Qd,Option.bind_some,Q3 k l,Q3 k l,List.all_cons]
    have h37:(AL c !=37)=!(c==37):=by unfold bne;rw[Lv];rfl
    rw[h37]
    unfold okU
    cases (c==37)<;>cases C8 c<;>cases l.all (fun c=>c==37||C8 c)<;>rfl
theorem AIj (l:List UInt8):(l.flatMap (Hy [])).flatMap (R4 [37,55,69] 126)=l.flatMap E9:=by
  rw[List.flatMap_assoc]
  congr 1;funext b;exact ANn b
theorem ARG (e:Int) (x:List UInt8) (hb:x.length≤100000) (hN:20000≤N):E8 N ⟨e⟩ x=some (Ih N x,⟨if Oj N x=true then 110 else e⟩):=by
  have hd:=Fb (N:=N) x
  have he:=Li [] (Dw N x).1
  have hf:=MF (f:=E9) (n:=3) (fun b=>(JL b).1) (Dw N x).1
  have hg: ∀v:Option (List UInt8×DidwebMapper),grd (AV (([58]:List UInt8).length+((Dw N x).1.flatMap E9).length)) v=v:=fun v=>BL (by simp only[List.length_cons,List.length_nil];omega)
  unfold E8 Oj Ih
  dsimp only[AJ]
  rw[BL (by omega),Q3,Kw _ hN,Option.bind_some,PW _ _ (by omega)]
  simp only[Option.bind_some]
  rw[Lf _ _ _ rfl (by omega),AIj]
  simp only[Option.bind_some,hg]
  by_cases h:((Dw N x).2 !=0)=true
  · rw[if_pos h,AD6 hN h];cases x.all okU<;>rfl
  · rw[if_neg h]
    cases ((Dw N x).1==[])<;>cases x.all okU<;>rfl
theorem Qv (x:List UInt8):(Ih N x).length≤3 * x.length+1:=by
  have hd:=Fb (N:=N) x
  have hf:=MF (f:=E9) (n:=3) (fun b=>(JL b).1) (Dw N x).1
  unfold Ih;rw[List.length_cons];omega
theorem RN: ∀xs:List (List UInt8),(xs.flatMap (Ih N)).length≤3 * wS xs
  |[]=>by simp
  | x::xs=>by
    have:=Qv (N:=N) x
    have:=RN xs
    rw[List.flatMap_cons,List.length_append,KZ];omega
theorem NR (hN:20000≤N) (k:Bool×List UInt8×DidwebMapper→Option (List UInt8×DidwebMapper)): ∀(xs:List (List UInt8)) (d:Bool) (b:List UInt8) (e:Int),b.length+3 * wS xs≤300000→
    Ac N k xs d b ⟨e⟩=k (d||!xs.isEmpty,b++xs.flatMap (Ih N),⟨if xs.any (Oj N)=true then 110 else e⟩)
  | [],d,b,e,_=>by
    rw[Ac];simp
  | x::xs,d,b,e,h=>by
    have hu:=Qv (N:=N) x
    rw[KZ]at h
    rw[Ac,ARG _ _ (by omega) hN,Option.bind_some]
    dsimp only
    rw[TF _ _ _ (by omega),Option.bind_some]
    dsimp only
    rw[NR hN k xs _ _ _ (by rw[List.length_append];omega),List.flatMap_cons,List.any_cons,List.append_assoc]
    cases Oj N x<;>cases xs.any (Oj N)<;>simp
theorem XD (xs:List (List UInt8)) (e:Int) (h:wS xs≤100000) (hN:20000≤N):BQ N xs ⟨e⟩=some (xs.flatMap (Ih N),⟨if xs.any (Oj N)=true then 110 else e⟩):=by
  unfold BQ
  dsimp only[AJ]
  have:xs.length≤wS xs:=by unfold wS;omega
  rw[BL (by omega),NR hN _ _ _ _ _ (by simp;omega)]
  rfl
def Tz:List UInt8:=[100,105,100,46,106,115,111,110]
def idA (h:List UInt8) (p:Int):List UInt8:=if p=0 then h else h++([37,51,65]++fmtS p.toNat)
theorem AIQ (h:List UInt8) (p:Int):(idA h p).length≤h.length+23:=by
  have:=MU p.toNat
  unfold idA
  split
  · omega
  · simp only[List.length_append,List.length_cons,List.length_nil];omega
def N7 (N:Nat) (h:List UInt8) (p:Int) (path:List UInt8) (L:List (List UInt8)):ApiDID×Int:=
  if(L.getLast?==some Tz)=false then(IK,6)
  else if L.length=1 then(IK,110)
  else if path=KV then(if(Gx ⟨GL,idA h p⟩).length>4096 then(IK,5)else(⟨GL,idA h p⟩,0))
  else if L.dropLast.any (Oj N)=true then(IK,110)
  else if(Gx ⟨GL,idA h p++L.dropLast.flatMap (Ih N)⟩).length>4096 then(IK,5)
  else(⟨GL,idA h p++L.dropLast.flatMap (Ih N)⟩,0)
def QB (N:Nat) (u:ApiURL):ApiDID×Int:=if Mq N u=true then N7 N u.host u.port u.path ((AU 47 u.path).drop 1)else(IK,8)
theorem AVE{β:Type} (h:List UInt8) (p:Int) (hp:GI p) (hb:h.length≤1000000) (hN:20≤N) (k:List UInt8→Option β):
    (if(p !=0)=true then Option.bind (Ep N (wr .u64 p)) fun y15=>grd (AV (([37,51,65]:List UInt8).length+y15.length)) (grd (AV (h.length+(([37,51,65]:List UInt8)++y15).length)) (k (h++(([37,51,65]:List UInt8)++y15))))else k h)=k (idA h p):=by
  have hl:=MU p.toNat
  obtain⟨h1,h2⟩:=hp
  unfold idA
  by_cases h0:p=0
  · subst h0;rfl
  · rw[if_pos (by simpa using h0),if_neg h0]
    have e:wr .u64 p=((p.toNat:Nat):Int):=by rw[H8 (by omega)];omega
    simp only[e]
    rw[Tv p.toNat (by omega) hN,Option.bind_some,BL (by simp only[List.length_append,List.length_cons,List.length_nil];omega),BL (by simp only[List.length_append,List.length_cons,List.length_nil];omega)]
theorem AVK{β:Type} (h:List UInt8) (p:Int) (hp:GI p) (hb:h.length≤1000000) (hN:20≤N) (k:List UInt8→Option β):
    (if(p !=0)=true then Option.bind (FW N p) fun y15=>grd (AV (([37,51,65]:List UInt8).length+y15.length)) (grd (AV (h.length+(([37,51,65]:List UInt8)++y15).length)) (k (h++(([37,51,65]:List UInt8)++y15))))else k h)=k (idA h p):=by
  have hl:=MU p.toNat
  obtain⟨h1,h2⟩:=hp
  unfold idA FW
  by_cases h0:p=0
  · subst h0;rfl
  · rw[if_pos (by simpa using h0),if_neg h0,if_neg (by simp;omega)]
    have e:wr .u64 p=((p.toNat:Nat):Int):=by rw[H8 (by omega)];omega
    simp only[e]
    rw[Sn p.toNat (by omega) hN,Option.bind_some,Option.bind_some,BL (by simp only[List.length_append,List.length_cons,List.length_nil];omega),BL (by simp only[List.length_append,List.length_cons,List.length_nil];omega)]
theorem VQ{l:List (List UInt8)} (hne:l≠ []) (hb:l.length≤1000000): ∃y,l.getLast?=some y∧idx l (wr .i64 ((l.length:Int)-1))=some y:=⟨l.getLast hne,List.getLast?_eq_some_getLast hne,Vj hne hb⟩
theorem ACO{l:List (List UInt8)} (hne:l≠ []) (hb:l.length≤1000000):sub l 0 (wr .i64 ((l.length:Int)-1))=some l.dropLast:=by
  have:0<l.length:=List.length_pos_iff.2 hne
  rw[show wr .i64 ((l.length:Int)-1)=((l.length-1:Nat):Int) by rw[BH (by omega)];omega,show(0:Int)=((0:Nat):Int)from rfl,CV l 0 (l.length-1) (by omega) (by omega),List.drop_zero,Nat.sub_zero,List.dropLast_eq_take]
theorem Nk: ∀xs:List (List UInt8),wS xs.dropLast≤wS xs
  |[]=>Nat.le_refl _
  |[x]=>by simp[wS]
  | x::y::xs=>by
    have:=Nk (y::xs)
    rw[List.dropLast_cons_cons,KZ,KZ x];omega
theorem AMT (h:List UInt8) (p:Int) (path:List UInt8) (hu:Ue (EP h p path)) (hh:h.length≤1000) (hp:path.length≤5000) (hL:(AU 47 path).drop 1≠ []) (hN:20000≤N):Gr N (EP h p path)=some (QB N (EP h p path)):=by
  have hpt:=hu.1
  have hF:(KQ (EP h p path)).length≤1000000:=by
    have:=Qa h p
    have ht:Nu (EP h p path)=path:=rfl
    have he:KQ (EP h p path)=([104,116,116,112,115,58,47,47]++hpF h p)++path:=rfl
    rw[he]
    simp only[List.length_append,List.length_cons,List.length_nil];omega
  have hw:=OC 47 path
  have hw1:=Qp (AU 47 path)
  have hsl:=FV 47 path
  have hne:=Br 47 path
  unfold Gr QB
  rw[AJi _ hu hF hN,Option.bind_some]
  by_cases hv:Mq N (EP h p path)=true
  rotate_left
  · rw[if_neg hv,if_neg hv];rfl
  rw[if_pos hv,if_pos hv]
  change Option.bind (strings_Split N path [47]) _=some (N7 N h p path ((AU 47 path).drop 1))
  rw[RS _ 47 (by omega),Option.bind_some,AIL hne (by omega)]
  rw[Option.bind_some]
  generalize (AU 47 path).drop 1=L at *
  have hLl:L.length≤wS L:=by unfold wS;omega
  obtain⟨y,hy1,hy2⟩:=VQ hL (by omega)
  dsimp only[AJ]
  change Option.bind (idx L (wr .i64 ((L.length:Int)-1))) (fun x10=>if(!(x10==Tz))=true then some (IK,(6:Int))else _)=_
  rw[hy2,Option.bind_some]
  unfold N7
  rw[hy1]
  by_cases hd:y=Tz
  rotate_left
  · rw[if_pos (by simpa using hd),if_pos (by simpa using hd)]
  rw[if_neg (show¬(!(y==Tz))=true by simp[hd]),if_neg (show¬(some y==some Tz)=false by simp[hd])]
  by_cases h1:L.length=1
  · rw[if_pos (show((L.length:Int)==1)=true by simp[h1]),if_pos h1];rfl
  rw[if_neg (show¬((L.length:Int)==1)=true by simp;omega),if_neg h1]
  have hid:=AIQ h p
  have hdl:=RN (N:=N) L.dropLast
  have hwl:=Nk L
  have fin: ∀I:List UInt8,I.length≤100000→(Option.bind (Dx N (ApiDID.mk ([119,101,98]:List UInt8) I)) fun y24=>
       if(decide ((y24.length:Int)>4096))=true then
        (some ((ApiDID.mk [] []),5):Option (ApiDID×Int))
       else
        some ((ApiDID.mk ([119,101,98]:List UInt8) I),0))=some (if(Gx ⟨GL,I⟩).length>4096 then(IK,5)else(⟨GL,I⟩,0)):=by
    intro I hI
    rw[S9 _ ⟨by simp,by dsimp only;omega⟩,Option.bind_some]
    change (if decide (((Gx ⟨GL,I⟩).length:Int)>4096)=true then _ else _)=_
    split
    · rename_i hx;rw[if_pos (by simp only[decide_eq_true_eq]at hx;omega)];rfl
    · rename_i hx;rw[if_neg (by simp only[decide_eq_true_eq]at hx;omega)];rfl
  refine(AVE (N:=N) h p hpt (by omega) (by omega) (fun J=>if(path==KV)=true then
       (Option.bind (Dx N (ApiDID.mk ([119,101,98]:List UInt8) J)) fun y24=>
       if(decide ((y24.length:Int)>4096))=true then
        some ((ApiDID.mk [] []),5)
       else
        some ((ApiDID.mk ([119,101,98]:List UInt8) J),0))
      else
       Option.bind (sub L 0 (wr .i64 ((L.length:Int)-1))) fun x21=>
       Option.bind (BQ N x21 (DidwebMapper.mk 0)) fun y22=>
       grd (AV (J.length+y22.1.length)) (
       if(y22.2.e !=0)=true then
        some ((ApiDID.mk [] []),y22.2.e)
       else
        (Option.bind (Dx N (ApiDID.mk ([119,101,98]:List UInt8) (J++y22.1))) fun y24=>
       if(decide ((y24.length:Int)>4096))=true then
        some ((ApiDID.mk [] []),5)
       else
        some ((ApiDID.mk ([119,101,98]:List UInt8) (J++y22.1)),0))))).trans ?_
  change (if(path==KV)=true then _ else _)=_
  by_cases hr:path=KV
  · rw[if_pos (by simpa using hr),if_pos hr]
    exact fin (idA h p) (by omega)
  rw[if_neg (by simpa using hr),if_neg hr,ACO hL (by omega),Option.bind_some,XD _ _ (by omega) hN,Option.bind_some,BL (by dsimp only;omega)]
  by_cases hb:L.dropLast.any (Oj N)=true
  · rw[if_pos hb,if_pos hb];rfl
  · rw[if_neg hb,if_neg hb]
    dsimp only
    rw[if_neg (by decide)]
    exact fin _ (by rw[List.length_append];omega)
end
end Go.VM
namespace Go.VM
section
variable{N:Nat}
theorem AL4 (k:Unit→Option (ApiDID×Int)): ∀l:List UInt8,CW N k l=if l.all okU=true then k ()else some (IK,110)
  |[]=>by rw[CW];rfl
  | c::l=>by
    rw[CW]
    dsimp only[AJ]
    rw[QC,Option.bind_some,AL4 k l,List.all_cons]
    have h37:(AL c !=37)=!(c==37):=by unfold bne;rw[Lv];rfl
    rw[h37]
    unfold okU
    cases (c==37)<;>cases C8 c<;>cases l.all (fun c=>c==37||C8 c)<;>rfl
theorem Pb (hN:20000≤N) (h:List UInt8) (p:Int) (path:List UInt8) (k:List UInt8→Option (ApiDID×Int)): ∀(xs:List (List UInt8)) (acc:List UInt8),acc.length+3 * wS xs≤300000→
    Bu N (EP h p path) k xs acc=if xs.any (Oj N)=true then some (IK,110)else k (if path=KV then acc else acc++xs.flatMap (Ih N))
  |[],acc,_=>by rw[Bu];simp
  | x::xs,acc,hb=>by
    have hu:=Qv (N:=N) x
    have hd:=Fb (N:=N) x
    have hf:=MF (f:=E9) (n:=3) (fun b=>(JL b).1) (Dw N x).1
    rw[KZ]at hb
    rw[Bu,List.any_cons,List.flatMap_cons]
    dsimp only[AJ]
    rw[BL (by omega),AL4,Jg _ hN,Option.bind_some]
    unfold Oj
    by_cases h1:x.all okU=true
    rotate_left
    · rw[if_neg h1,Bool.eq_false_iff.2 h1];rfl
    rw[if_pos h1,h1]
    by_cases h2:((Dw N x).1==[])=true
    · rw[if_pos h2,h2];rfl
    rw[if_neg h2,Bool.eq_false_iff.2 h2,Bool.not_true,Bool.false_or,Bool.false_or]
    change (if(path==KV)=true then _ else _)=_
    by_cases hr:path=KV
    · rw[if_pos (show(path==KV)=true by simpa using hr),Pb hN h p path k xs acc (by omega)]
      simp only[hr,if_true]
      rfl
    · rw[if_neg (show¬(path==KV)=true by simpa using hr),AE0 _ (by omega),Option.bind_some,BL (by simp only[List.length_cons,List.length_nil];omega),BL (by simp only[List.length_append,List.length_cons,List.length_nil];omega)]
      have e:acc++([58]++(Dw N x).1.flatMap E9)=acc++Ih N x:=rfl
      rw[e,Pb hN h p path k xs _ (by rw[List.length_append];omega)]
      simp only[hr,if_false,List.append_assoc]
      rfl
theorem AJk (hN:20000≤N):((AU 47 KV).drop 1).dropLast.any (Oj N)=false:=by
  have e:((AU 47 KV).drop 1).dropLast=[[46,119,101,108,108,45,107,110,111,119,110]]:=by decide
  rw[e]
  simp only[List.any_cons,List.any_nil,Bool.or_false]
  unfold Oj
  rw[PH (by decide) hN]
  rfl
theorem AMi (h:List UInt8) (p:Int) (path:List UInt8) (hu:Ue (EP h p path)) (hh:h.length≤1000) (hp:path.length≤5000) (hL:(AU 47 path).drop 1≠ []) (hN:20000≤N):IQ N (EP h p path)=some (QB N (EP h p path)):=by
  have hpt:=hu.1
  have hF:(KQ (EP h p path)).length≤1000000:=by
    have:=Qa h p
    have ht:Nu (EP h p path)=path:=rfl
    have he:KQ (EP h p path)=([104,116,116,112,115,58,47,47]++hpF h p)++path:=rfl
    rw[he]
    simp only[List.length_append,List.length_cons,List.length_nil];omega
  have hw:=OC 47 path
  have hw1:=Qp (AU 47 path)
  have hsl:=FV 47 path
  have hne:=Br 47 path
  unfold IQ QB
  rw[ALp _ hu hF hN,Option.bind_some]
  by_cases hv:Mq N (EP h p path)=true
  rotate_left
  · rw[if_neg hv,if_neg hv];rfl
  rw[if_pos hv,if_pos hv]
  change Option.bind (Ea N path (AL 47)) _=some (N7 N h p path ((AU 47 path).drop 1))
  rw[Km _ 47 (by omega),Option.bind_some,AIL hne (by omega)]
  rw[Option.bind_some]
  have hroot:path=KV→((AU 47 path).drop 1).dropLast.any (Oj N)=false:=fun e=>by rw[e];exact AJk hN
  generalize (AU 47 path).drop 1=L at *
  have hLl:L.length≤wS L:=by unfold wS;omega
  obtain⟨y,hy1,hy2⟩:=VQ hL (by omega)
  dsimp only[AJ]
  change Option.bind (idx L (wr .i64 ((L.length:Int)-1))) (fun x10=>if(!(x10==Tz))=true then some (IK,(6:Int))else _)=_
  rw[hy2,Option.bind_some]
  unfold N7
  rw[hy1]
  by_cases hd:y=Tz
  rotate_left
  · rw[if_pos (by simpa using hd),if_pos (by simpa using hd)]
  rw[if_neg (show¬(!(y==Tz))=true by simp[hd]),if_neg (show¬(some y==some Tz)=false by simp[hd]),ACO hL (by omega),Option.bind_some]
  have hpos:0<L.length:=List.length_pos_iff.2 hL
  by_cases h1:L.length=1
  · rw[if_pos (show(((L.dropLast.length:Nat):Int)==0)=true by simp[h1]),if_pos h1];rfl
  rw[if_neg (show¬(((L.dropLast.length:Nat):Int)==0)=true by simp;omega),if_neg h1]
  have hid:=AIQ h p
  have hdl:=RN (N:=N) L.dropLast
  have hwl:=Nk L
  have hdll:L.dropLast.length≤wS L.dropLast:=by unfold wS;omega
  have fin: ∀I:List UInt8,I.length≤100000→(Option.bind (De N (ApiDID.mk ([119,101,98]:List UInt8) I)) fun y24=>
       if(decide ((y24.length:Int)>4096))=true then
        (some ((ApiDID.mk [] []),5):Option (ApiDID×Int))
       else
        some ((ApiDID.mk ([119,101,98]:List UInt8) I),0))=some (if(Gx ⟨GL,I⟩).length>4096 then(IK,5)else(⟨GL,I⟩,0)):=by
    intro I hI
    rw[Tw _ ⟨by simp,by dsimp only;omega⟩,Option.bind_some]
    change (if decide (((Gx ⟨GL,I⟩).length:Int)>4096)=true then _ else _)=_
    split
    · rename_i hx;rw[if_pos (by simp only[decide_eq_true_eq]at hx;omega)];rfl
    · rename_i hx;rw[if_neg (by simp only[decide_eq_true_eq]at hx;omega)];rfl
  refine(AVK (N:=N) h p hpt (by omega) (by omega) (fun J=>grd (AV L.dropLast.length) (Bu N (EP h p path) (fun j18=>
       Option.bind (De N (ApiDID.mk ([119,101,98]:List UInt8) j18)) fun y42=>
       if(decide ((y42.length:Int)>4096))=true then
        some ((ApiDID.mk [] []),5)
       else
        some ((ApiDID.mk ([119,101,98]:List UInt8) j18),0)) L.dropLast J))).trans ?_
  rw[BL (by omega),Pb hN h p path _ _ _ (by omega)]
  by_cases hr:path=KV
  · rw[hroot hr,if_neg (by decide),if_pos hr,if_pos hr]
    exact fin (idA h p) (by omega)
  rw[if_neg hr,if_neg hr]
  by_cases hb:L.dropLast.any (Oj N)=true
  · rw[if_pos hb,if_pos hb]
  · rw[if_neg hb,if_neg hb]
    exact fin _ (by rw[List.length_append];omega)
theorem Qt (c:UInt8): ∀a b:List UInt8,AU c (a++c::b)=AU c a++AU c b
  |[],b=>by simp[AU]
  | x::a,b=>by
    rw[List.cons_append,AU,AU,Qt c a b]
    split
    · rfl
    · cases h:AU c a with
      |nil=>exact absurd h (Br c a)
      |cons p ps=>rfl
theorem QX (xs:List (List UInt8)):(AU 47 (Gh N xs)).drop 1≠ []:=by
  unfold Gh
  split
  · decide
  · have:AHD=47::Tz:=rfl
    rw[this,Qt]
    intro h
    have h1:=congrArg List.length h
    have h2:0<(AU 47 (xs.flatMap (upT N))).length:=List.length_pos_iff.2 (Br _ _)
    have h3:(AU 47 Tz).length=1:=by decide
    simp only[List.length_drop,List.length_append,List.length_nil]at h1
    omega
def Ot (N:Nat) (d:ApiDID):ApiDID×Int:=if((toS N d).2 !=0)=true then(IK,(toS N d).2)else QB N (toS N d).1
theorem Xc{d:ApiDID} (h: ¬((toS N d).2 !=0)=true):(toS N d).1=EP (CE N d).1.host (CE N d).1.port (Gh N ((AU 58 d.iD).drop 1))∧(KQ (toS N d).1).length≤4096∧((CE N d).2 !=0)=false∧((AU 58 d.iD).drop 1).any (upB N)=false:=by
  unfold toS at h⊢
  split at h
  · rename_i h1;exact absurd h1 h
  rename_i h1
  rw[if_neg h1]
  split at h
  · exact absurd rfl h
  rename_i h2
  rw[if_neg h2]
  split at h
  · exact absurd rfl h
  rename_i h3
  rw[if_neg h3]
  exact⟨rfl,by dsimp only;omega,by simpa using h1,by simpa using h2⟩
theorem SX{d:ApiDID} (h: ¬((toS N d).2 !=0)=true):(Gh N ((AU 58 d.iD).drop 1)).length≤4096:=by
  obtain⟨h1,h2,_⟩:=Xc h
  rw[h1]at h2
  have he: ∀(a:List UInt8) (b:Int) (c:List UInt8),KQ (EP a b c)=([104,116,116,112,115,58,47,47]++hpF a b)++c:=fun _ _ _=>rfl
  rw[he]at h2
  simp only[List.length_append,List.length_cons,List.length_nil]at h2
  omega
theorem AC9{d:ApiDID} (h: ¬((toS N d).2 !=0)=true):Ue (EP (CE N d).1.host (CE N d).1.port (Gh N ((AU 58 d.iD).drop 1))):=by
  have:=SX h
  obtain⟨a1,a2⟩:=MZ (N:=N) d
  exact⟨a1,by simp only[EP];omega,by simp only[EP];omega,by simp[EP],by simp[EP]⟩
theorem AMH (d:ApiDID) (hm:d.method.length≤4096) (hi:d.iD.length≤16000) (hN:20000≤N):Fy N d=some (Ot N d):=by
  obtain⟨a1,a2⟩:=MZ (N:=N) d
  unfold Fy Ot
  rw[AQ4 d hm hi hN,Option.bind_some]
  by_cases h:((toS N d).2 !=0)=true
  · rw[if_pos h,if_pos h];rfl
  have hb:=SX h
  have hu:=AC9 h
  rw[if_neg h,if_neg h,(Xc h).1,AMT _ _ _ hu (by omega) (by omega) (QX _) hN]
  rfl
theorem ANC (d:ApiDID) (hm:d.method.length≤4096) (hi:d.iD.length≤16000) (hN:20000≤N):GQ N d=some (Ot N d):=by
  obtain⟨a1,a2⟩:=MZ (N:=N) d
  unfold GQ Ot
  rw[APo d hm hi hN,Option.bind_some]
  by_cases h:((toS N d).2 !=0)=true
  · rw[if_pos h,if_pos h];rfl
  have hb:=SX h
  have hu:=AC9 h
  rw[if_neg h,if_neg h,(Xc h).1,AMi _ _ _ hu (by omega) (by omega) (QX _) hN]
  rfl
end
end Go.VM
namespace Go.VM
section
variable{N:Nat}
theorem Po{c:UInt8} (h:Dk c=true):c≠35∧c≠63∧c≠47∧c≠58∧c≠37∧c≠64:=by
  have key:=Be (f:=fun n=>(!Dk (UInt8.ofNat n))||(decide (UInt8.ofNat n≠35)&&(decide (UInt8.ofNat n≠63)&&(decide (UInt8.ofNat n≠47)&&(decide (UInt8.ofNat n≠58)&&(decide (UInt8.ofNat n≠37)&&decide (UInt8.ofNat n≠64))))))) (g:=fun _=>true) (by kernel_rfl) c
  simp only[UInt8.ofNat_toNat]at key
  rw[h]at key
  simpa using key
theorem ALj{c:UInt8} (h:AAm c=true∨FE c=true∨c=46):Dk (Dn c)=true:=by
  have key:=Be (f:=fun n=>(!(AAm (UInt8.ofNat n)||(FE (UInt8.ofNat n)||decide (UInt8.ofNat n=46))))||Dk (Dn (UInt8.ofNat n))) (g:=fun _=>true) (by kernel_rfl) c
  simp only[UInt8.ofNat_toNat]at key
  rcases h with h|h|h
  · rw[h]at key;simpa using key
  · rw[h]at key;simpa using key
  · rw[h]at key⊢;simpa using key
theorem RP (c:UInt8): ∀(l:List UInt8) (x:UInt8),x∈l→x=c∨ ∃p,p∈AU c l∧x∈p
  |[],x,h=>by cases h
  | y :: t, x,h=>by
    rw[AU]
    split
    · rename_i hy
      rcases List.mem_cons.1 h with rfl|h
      · exact .inl hy
      · rcases RP c t x h with h|⟨p,hp,hx⟩
        · exact .inl h
        · exact .inr ⟨p,by simp[hp],hx⟩
    · cases hs:AU c t with
      |nil=>exact absurd hs (Br c t)
      | cons p ps=>
        simp only
        rcases List.mem_cons.1 h with rfl|h
        · exact .inr ⟨x::p,by simp,by simp⟩
        · rcases RP c t x h with h|⟨q,hq,hx⟩
          · exact .inl h
          · rw[hs]at hq
            rcases List.mem_cons.1 hq with rfl|hq
            · exact .inr ⟨y::q,by simp,by simp[hx]⟩
            · exact .inr ⟨q,by simp[hq],hx⟩
theorem AGi{m:Nat}{l:List UInt8} (h:(EC m l).2=0):l.all FE=true:=by
  unfold EC at h
  split at h
  · cases h
  split at h
  · assumption
  · cases h
theorem AGJ{a:List UInt8} (h:((FZ a).2 !=0)=false):(FZ a).1≠ []∧ ∀x,x∈(FZ a).1→Dk x=true:=by
  unfold FZ at h⊢
  split at h
  · cases h
  rename_i h0
  rw[if_neg h0]
  split at h
  · cases h
  rename_i h1
  rw[if_neg h1]
  split at h
  rotate_left
  · cases h
  rename_i h2
  rw[if_pos h2]
  refine⟨by simpa using h0,fun x hx=>?_⟩
  obtain⟨y,hy,rfl⟩:=List.mem_map.1 hx
  refine ALj ?_
  rcases RP 46 a y hy with h|⟨p,hp,hyp⟩
  · exact .inr (.inr h)
  · rw[Bool.or_eq_true]at h2
    rcases h2 with h2|h2
    · unfold UO at h2
      rw[Bool.and_eq_true]at h2
      have:=List.all_eq_true.1 h2.2 p hp
      exact .inr (.inl (List.all_eq_true.1 (AGi (by simpa using this)) y hyp))
    · unfold NS at h2
      rw[Bool.and_eq_true]at h2
      have:=List.all_eq_true.1 h2.1 p hp
      unfold JB at this
      simp only[Bool.and_eq_true]at this
      exact .inl (List.all_eq_true.1 this.2.2.2.2 y hyp)
theorem AMR{a:List UInt8} (h:((hpS a).2 !=0)=false):(hpS a).1.host≠ []∧ ∀x,x∈(hpS a).1.host→Dk x=true:=by
  unfold hpS at h⊢
  split at h
  · rename_i h1;rw[h1]at h;cases h
  rename_i h1
  have hc:=AGJ (a:=(Aa 58 a).1) (by simpa using h1)
  rw[if_neg h1]
  split at h
  · rename_i h2
    rw[if_pos h2]
    split at h
    · rename_i h3;rw[h3]at h;cases h
    · rename_i h3;rw[if_neg h3];exact hc
  · rename_i h2;rw[if_neg h2];exact hc
theorem AES: ∀(k n:Nat) (acc:List UInt8),acc.all Dk=true→(TC k n acc).all Dk=true
  |0,n,acc,h=>h
  | k+1,n,acc,h=>by
    have hd:Dk (UInt8.ofNat (48+n % 10))=true:=by
      have:n % 10<10:=Nat.mod_lt _ (by decide)
      generalize n % 10=d at *
      have:d=0∨d=1∨d=2∨d=3∨d=4∨d=5∨d=6∨d=7∨d=8∨d=9:=by omega
      rcases this with rfl|rfl|rfl|rfl|rfl|rfl|rfl|rfl|rfl|rfl<;>decide
    rw[TC]
    split
    · rw[List.all_cons,hd,h];rfl
    · exact AES k _ _ (by rw[List.all_cons,hd,h];rfl)
theorem PN{l:List UInt8} (h: ∀x,x∈l→Dk x=true):l.flatMap E9=l:=by
  induction l with
  |nil=>rfl
  | cons c l ih=>
    rw[List.flatMap_cons,ih fun x hx=>h x (by simp[hx])]
    unfold E9;rw[if_pos (h c (by simp))];rfl
theorem VJ (n:Nat): ∀x,x∈fmtS n→Dk x=true:=fun x hx=>List.all_eq_true.1 (AES 20 n [] rfl) x hx
theorem ARp{h:List UInt8} (p:Int) (hh: ∀x,x∈h→Dk x=true):idA h p=(hpF h p).flatMap E9:=by
  unfold idA hpF
  split
  · rw[PN hh]
  · rw[List.flatMap_append,List.flatMap_append,PN hh,PN (VJ _),List.append_assoc];rfl
theorem AO3 (b:UInt8) (t:List UInt8):IW (NN (b.toNat / 16)::NN (b.toNat % 16)::t)=some b:=by
  have key:=Be (f:=fun n=>decide (IW [NN (n / 16),NN (n % 16)]=some (UInt8.ofNat n))) (g:=fun _=>true) (by kernel_rfl) b
  simp only[decide_eq_true_eq,UInt8.ofNat_toNat]at key
  rw[←key];rfl
theorem ATb (b:UInt8) (t:List UInt8):unS (IC b++t)=(unS t).map ((true,b):: ·):=by
  change un _ (37::NN (b.toNat / 16)::NN (b.toNat % 16)::t)=_
  rw[un,if_pos rfl,AO3]
  simp only[List.drop_succ_cons,List.drop_zero]
  rw[AFs (by simp only[IC,List.length_append,List.length_cons,List.length_nil];omega)]
theorem AUj{b:UInt8} (h:b≠37) (t:List UInt8):unS ([b]++t)=(unS t).map ((false,b):: ·):=by
  change un _ (b::t)=_
  rw[un,if_neg h,AFs (by simp only[List.length_append,List.length_cons,List.length_nil];omega)]
theorem AN1: ∀l:List UInt8,unS (l.flatMap E9)=some (l.map fun b=>(!Dk b,b))
  |[]=>rfl
  | b::l=>by
    rw[List.flatMap_cons,List.map_cons]
    have ih:=AN1 l
    cases hp:Dk b
    · rw[show E9 b=IC b by unfold E9;rw[hp];rfl,ATb,ih];rfl
    · rw[show E9 b=[b] by unfold E9;rw[hp];rfl,AUj (Po hp).2.2.2.2.1,ih];rfl
theorem AQA (b:UInt8):(IC b).all QE=true:=by
  have key:=Be (f:=fun n=>([37,NN (n / 16),NN (n % 16)]:List UInt8).all QE) (g:=fun _=>true) (by kernel_rfl) b
  exact key
theorem AH1 (l:List UInt8):(l.flatMap E9).all QE=true:=by
  rw[List.all_eq_true]
  intro x hx
  obtain⟨b,_,hb⟩:=List.mem_flatMap.1 hx
  unfold E9 at hb
  split at hb
  · rename_i hp
    rcases List.mem_singleton.1 hb with rfl
    unfold QE;rw[hp];rfl
  · exact List.all_eq_true.1 (AQA b) x hb
theorem ADg (l:List UInt8):(l.flatMap E9).contains 58=false:=by
  cases h:(l.flatMap E9).contains 58
  · rfl
  · have:=List.all_eq_true.1 (AH1 l) 58 (by simpa using h)
    exact absurd this (by decide)
theorem AIS{l:List UInt8} (hb:(l.flatMap E9).length≤16000) (hN:20000≤N):Dw N (l.flatMap E9)=(l,0):=by
  rw[PH hb hN,AN1]
  simp only[List.map_map]
  congr 1
  conv=>rhs;rw[←List.map_id l]
  congr 1
theorem Te{c:UInt8}{l:List UInt8} (h:l.contains c=false):AU c l=[l]:=by rw[Ie,Mk h];rfl
theorem Tf: ∀(ps:List (List UInt8)) (e:List UInt8),e.contains 58=false→(∀p,p∈ps→p.contains 58=false)→AU 58 (e++ps.flatMap fun p=>58::p)=e::ps
  |[],e,he,_=>by rw[List.flatMap_nil,List.append_nil,Te he]
  | p::ps,e,he,h=>by
    rw[List.flatMap_cons,List.cons_append,Qt,Te he,Tf ps p (h p (by simp)) fun q hq=>h q (by simp[hq])]
    rfl
theorem AJ9 (hN:20000≤N){I:List UInt8} (hb:I.length≤16000){ps:List (List UInt8)} (hs:AU 58 I=ps.map fun l=>l.flatMap E9) (hne: ∀l,l∈ps→l≠ []):(Kz I).2=0∧XB (Kz I).1=false:=by
  have hpt:=Eo 58 I
  have hdk:(AU 58 I).all (Om N)=true:=by
    rw[List.all_eq_true]
    intro p hp
    have hl:=hpt p hp
    rw[hs]at hp
    obtain⟨l,hl',rfl⟩:=List.mem_map.1 hp
    unfold Om;rw[AIS (by omega) hN];rfl
  have hok:((AU 58 I).all fun p=>p.all QE)=true:=by
    rw[List.all_eq_true]
    intro p hp
    rw[hs]at hp
    obtain⟨l,hl',rfl⟩:=List.mem_map.1 hp
    exact AH1 l
  obtain⟨r1,r2⟩:=AAW (N:=N) hN I.length I (Nat.le_refl _) hb
  unfold Kz
  cases hu:unS I with
  |none=>rw[r1 hu]at hdk;cases hdk
  | some us=>
    obtain⟨_,q2,q3⟩:=r2 us hu
    rw[hok]at q2
    simp only
    rw[if_pos q2.symm]
    refine⟨rfl,?_⟩
    dsimp only
    rw[←q3 q2.symm,AHY _ _ (Br 58 I)]
    have hm:=List.getLast_mem (Br 58 I)
    have hdl:=List.all_eq_true.1 hdk _ hm
    have hl:=hpt _ hm
    rw[AB8 (by omega) hN hdl]
    have hm':(AU 58 I).getLast (Br 58 I)∈ps.map fun l=>l.flatMap E9:=by rw[←hs];exact hm
    obtain⟨l,hl',he⟩:=List.mem_map.1 hm'
    have hne:=hne l hl'
    rw[←he]
    cases l with
    |nil=>exact absurd rfl hne
    | cons b l=>
      have:=(JL b).2
      cases hq:E9 b with
      |nil=>rw[hq]at this;simp at this
      |cons y ys=>simp[hq]
theorem AMW{I:List UInt8} (hl:(Gx ⟨GL,I⟩).length≤4096) (h1:(Kz I).2=0) (h2:XB (Kz I).1=false):(Ib (Gx ⟨GL,I⟩)).2=0:=by
  obtain⟨k1,k2,k3⟩:=Py I
  unfold Ib
  rw[if_neg (by omega),k1,k2]
  dsimp only
  rw[if_neg (by decide),if_neg (by decide),if_neg (by decide),if_neg (by rw[h1];decide),h2]
  rfl
theorem AQF{U:ApiURI} (h:(AAI N U).2=0):((hpS U.authority).2 !=0)=false∧(AAI N U).1.host=(hpS U.authority).1.host∧(AAI N U).1.port=(hpS U.authority).1.port:=by
  unfold AAI at h⊢
  split at h
  · cases h
  rename_i h1;rw[if_neg h1]
  split at h
  · cases h
  rename_i h2;rw[if_neg h2]
  split at h
  · rename_i h3;dsimp only at h;rw[h]at h3;cases h3
  rename_i h3;rw[if_neg h3]
  split at h
  · rename_i h4;dsimp only at h;rw[h]at h4;cases h4
  rename_i h4;rw[if_neg h4]
  split at h
  · rename_i h5;dsimp only at h;rw[h]at h5;cases h5
  rename_i h5;rw[if_neg h5]
  split at h
  · rename_i h6;dsimp only at h;rw[h]at h6;cases h6
  rename_i h6;rw[if_neg h6]
  split at h
  · cases h
  rename_i h7;rw[if_neg h7]
  exact⟨by simpa using h3,rfl,rfl⟩
theorem AJR{u:ApiURL} (h:Mq N u=true):AAI N (L8 Mi (U2 u))=(u,0):=by
  unfold Mq at h
  split at h
  rotate_left
  · cases h
  rename_i h0
  have hu:=ATN h
  have hp:(Oq N Mi (U2 u)).2=0:=by simpa using h0
  unfold Oq at hu hp
  split at hp
  · cases hp
  rename_i hl
  rw[if_neg hl]at hu
  exact Prod.ext hu.symm hp
theorem AQZ{h:List UInt8}{p:Int}{q:List UInt8} (hh: ∀x,x∈h→Dk x=true):(L8 Mi (U2 (EP h p (47::q)))).authority=hpF h p:=by
  have hF: ∀x,x∈hpF h p→x≠35∧x≠63∧x≠47:=by
    intro x hx
    unfold hpF at hx
    split at hx
    · obtain⟨a,b,c,_⟩:=Po (hh x hx);exact⟨a,b,c⟩
    · simp only[List.mem_append,List.mem_singleton]at hx
      rcases hx with(hx|hx)|hx
      · obtain⟨a,b,c,_⟩:=Po (hh x hx);exact⟨a,b,c⟩
      · subst hx;decide
      · obtain⟨a,b,c,_⟩:=Po (VJ _ x hx);exact⟨a,b,c⟩
  have e:U2 (EP h p (47::q))=([47,47]++(hpF h p++[47]))++q:=by
    have:U2 (EP h p (47::q))=[47,47]++(hpF h p++((47::q)++[])):=rfl
    rw[this];simp
  have hne: ∀c:UInt8,(c=35∨c=63)→ ∀x,x∈([47,47]++(hpF h p++[47]):List UInt8)→x≠c:=by
    intro c hc x hx
    simp only[List.mem_append,List.mem_cons,List.not_mem_nil,or_false]at hx
    rcases hx with(hx|hx)|hx|hx
    · subst hx;rcases hc with rfl|rfl<;>decide
    · subst hx;rcases hc with rfl|rfl<;>decide
    · obtain⟨a,b,_⟩:=hF x hx
      rcases hc with rfl|rfl<;>assumption
    · subst hx;rcases hc with rfl|rfl<;>decide
  unfold L8
  dsimp only
  rw[e,SS _ _ (hne 35 (.inl rfl))]
  dsimp only
  rw[SS _ _ (hne 63 (.inr rfl))]
  dsimp only
  generalize (Aa 63 (Aa 35 q).1).1=z
  unfold MX
  rw[if_pos (by rfl)]
  dsimp only
  have:([47,47]++(hpF h p++[47])++z:List UInt8).drop 2=hpF h p++47::z:=by simp
  rw[this,List.takeWhile_append_of_pos (fun x hx=>by simpa using(hF x hx).2.2)]
  simp
theorem AKK (xs:List (List UInt8)): ∃q,Gh N xs=47::q:=by
  unfold Gh
  split
  · exact⟨_,rfl⟩
  · cases xs with
    |nil=>exact⟨_,rfl⟩
    |cons x xs=>exact⟨_,rfl⟩
theorem round{h:List UInt8}{p:Int}{q:List UInt8} (hN:20000≤N) (hq:q.length≤5000) (hv:(QB N (EP h p (47::q))).2=0):CE N (QB N (EP h p (47::q))).1=(⟨h,p⟩,0):=by
  have hw:=OC 47 (47::q)
  have hw1:=Qp (AU 47 (47::q))
  rw[List.length_cons]at hw
  unfold QB at hv⊢
  split at hv
  rotate_left
  · cases hv
  rename_i hval
  rw[if_pos hval]
  have hw:=AJR hval
  obtain⟨w1,w2,w3⟩:=AQF (N:=N) (U:=L8 Mi (U2 (EP h p (47::q)))) (by rw[hw])
  rw[hw]at w2 w3
  obtain⟨c1,c2⟩:=AMR w1
  have hh: ∀x,x∈h→Dk x=true:=by
    change h=_ at w2
    rw[←w2]at c2;exact c2
  have hn:h≠ []:=by
    change h=_ at w2
    rw[w2];exact c1
  rw[AQZ hh]at w1 w2 w3
  have hp:hpS (hpF h p)=(⟨h,p⟩,0):=by
    refine Prod.ext ?_ (by simpa using w1)
    change h=_ at w2
    change p=_ at w3
    cases hx:(hpS (hpF h p)).1
    rw[hx]at w2 w3
    rw[w2,w3]
  have hFn:hpF h p≠ []:=by
    unfold hpF;split
    · exact hn
    · simp
  have main: ∀xs:List (List UInt8),(∀x,x∈xs→(Dw N x).1≠ [])→(Gx ⟨GL,idA h p++xs.flatMap (Ih N)⟩).length≤4096→CE N ⟨GL,idA h p++xs.flatMap (Ih N)⟩=(⟨h,p⟩,0):=by
    intro xs hx hl
    have hsp:AU 58 (idA h p++xs.flatMap (Ih N))=(hpF h p::xs.map fun x=>(Dw N x).1).map fun l=>l.flatMap E9:=by
      have e:xs.flatMap (Ih N)=(xs.map fun x=>(Dw N x).1.flatMap E9).flatMap fun p=>58::p:=by
        rw[List.flatMap_map];rfl
      rw[e,ARp p hh,Tf _ _ (ADg _) (fun y hy=>by obtain⟨x,_,rfl⟩:=List.mem_map.1 hy;exact ADg _),List.map_cons,List.map_map]
      rfl
    have hI:(idA h p++xs.flatMap (Ih N)).length≤4096:=by
      have:=(Py (idA h p++xs.flatMap (Ih N))).2.2
      omega
    obtain⟨r1,r2⟩:=AJ9 hN (by omega) hsp (fun l hl=>by
      rcases List.mem_cons.1 hl with rfl|hl
      · exact hFn
      · obtain⟨x,hx',rfl⟩:=List.mem_map.1 hl
        exact hx x hx')
    have hd:=AMW hl r1 r2
    have hcut:(Aa 58 (idA h p++xs.flatMap (Ih N))).1=(hpF h p).flatMap E9:=by
      have:=Tt 58 (idA h p++xs.flatMap (Ih N))
      rw[hsp]at this
      simpa using this.symm
    unfold CE
    rw[if_neg (show¬((GL==GL)=false) by decide),if_neg (by rw[hd];decide),hcut,AIS (by
      have:=Eo 58 (idA h p++xs.flatMap (Ih N)) ((hpF h p).flatMap E9) (by rw[hsp];simp)
      omega) hN,hp]
  change (N7 N h p (47::q) ((AU 47 (47::q)).drop 1)).2=0 at hv
  change CE N (N7 N h p (47::q) ((AU 47 (47::q)).drop 1)).1=_
  unfold N7 at hv⊢
  split at hv
  · cases hv
  rename_i h1;rw[if_neg h1]
  split at hv
  · cases hv
  rename_i h2;rw[if_neg h2]
  split at hv
  · rename_i h3
    rw[if_pos h3]
    split at hv
    · cases hv
    rename_i h4;rw[if_neg h4]
    have:=main [] (by simp) (by simpa using h4)
    simpa using this
  rename_i h3;rw[if_neg h3]
  split at hv
  · cases hv
  rename_i h5;rw[if_neg h5]
  split at hv
  · cases hv
  rename_i h6;rw[if_neg h6]
  refine main _ (fun x hx=>?_) (by change¬_>_ at h6;omega)
  have h5':((AU 47 (47::q)).drop 1).dropLast.any (Oj N)=false:=by simpa using h5
  have:=List.any_eq_false.1 h5' x hx
  unfold Oj at this
  simp only[Bool.or_eq_true,not_or]at this
  simpa using this.2
theorem AKO{d:ApiDID} (hN:20000≤N) (h:(Ot N d).2=0):((CE N (Ot N d).1).2 !=0)=false:=by
  unfold Ot at h⊢
  split at h
  · rename_i h0;dsimp only at h;rw[h]at h0;cases h0
  rename_i h0
  rw[if_neg h0]
  have hb:=SX h0
  rw[(Xc h0).1]at h⊢
  obtain⟨q,hq⟩:=AKK (N:=N) ((AU 58 d.iD).drop 1)
  rw[hq]at h hb⊢
  rw[List.length_cons]at hb
  rw[round hN (by omega) h]
  rfl
end
end Go.VM
