import Derived.Test.YtooeobhihpkicaaGreatDoorL3
import Derived.KernelRfl
import Derived.Test.YtooeobhihpkicaaGreatDoorDefs
set_option linter.unusedVariables false
set_option linter.unusedSimpArgs false
namespace Go.VM
def Bel (c:ApiValue) (a b:Nat) (d:List Int):Prop:=a=0∨ ∀x,a≤x→x<b→ltI c (at0 d (a-1)) (at0 d x)=true
section
variable{N:Nat}{c:ApiValue}{d d':List Int}{a b i j l0:Nat}
theorem Sw.bel (h:Sw a b d d') (hb:b≤d.length) (k:Bel c a b d):Bel c a b d':=by
  rcases k with k|k
  · exact .inl k
  · by_cases h0:a=0
    · exact .inl h0
    · refine .inr fun x x1 x2=>?_
      rw[h.out hb (k:=a-1) (.inl (by omega))]
      exact h.all hb (p:=fun v=>ltI c (at0 d (a-1)) v=true) k x x1 x2
theorem Tv (hb:b≤l0) (hib:i<b): ∀(s k:Nat) (d:List Int),a≤s→s≤i→d.length=l0→s<k→Row c d→Bel c a b d→InsI c a i s d→
    ∃d',(∀k26:List Int→Option (Bool×List Int),AV N l0 c k26 k (s:Int) d=k26 d')∧Sw a (i+1) d d'∧Asc' c a (i+1) d'
  |s,0,d,_,_,_,hk,_,_,_=>by omega
  | s, k + 1, d,h1,h2,hl,hk,hr,hB,hI=>by
    have hbig:=hr.big
    have hc:=cmp_eq (N:=N) hr
    by_cases hs0:s=0
    · subst hs0
      refine⟨d,fun k26=>?_,.refl d,hI.done hr (by omega) h1 h2 (.inl (by omega))⟩
      rw[AV,if_neg (by simp)]
    · obtain ⟨t,rfl⟩: ∃t,s=t+1:=⟨s-1,by omega⟩
      have e1:((t+1:Nat):Int)-1=(t:Int):=by omega
      have step: ∀k26:List Int→Option (Bool×List Int),AV N l0 c k26 (k+1) ((t+1:Nat):Int) d=if ltI c (at0 d (t+1)) (at0 d t)=true then AV N l0 c k26 k (t:Int) (swD d (t+1) t)else k26 d:=fun k26=>by
        rw[AV,if_pos (by simp only[decide_eq_true_eq];omega)]
        simp(disch:=omega) only[e1,swD,Ak,AZ,KJ,Option.bind_some,hc,Hr,Int.toNat_natCast]
      cases hlt:ltI c (at0 d (t+1)) (at0 d t)
      · refine⟨d,fun k26=>by rw[step,hlt];rfl,.refl d,hI.done hr (by omega) h1 h2 ?_⟩
        by_cases e:t+1=a
        · exact .inl e
        · exact .inr ⟨t,rfl,by omega,hlt⟩
      · have hat:a≤t:=by
          rcases Nat.lt_or_ge t a with h|h
          · have ea:t+1=a:=by omega
            rcases hB with h0|h0
            · omega
            · have:=h0 a (Nat.le_refl _) (by omega)
              rw[←ea,Nat.add_sub_cancel]at this
              rw[AK5 this]at hlt;cases hlt
          · exact h
        obtain⟨d',f1,f2,f3⟩:=Tv hb hib t k (swD d (t+1) t) hat (by omega) (by rw[EU];exact hl) (by omega) (hr.sw (by omega) (by omega)) ((Sw.one (a:=a) (b:=b) (by omega) (by omega)).bel (by omega) hB) (hI.step (by omega) (by omega) (by omega) hlt)
        exact⟨d',fun k26=>by rw[step,hlt,if_pos rfl,f1],(Sw.one (by omega) (by omega)).trans f2,f3⟩
theorem Q7 (hb:b≤l0){j10:Int}: ∀(m s:Nat) (d:List Int),i<s→s+m=b→d.length=l0→Row c d→
    ∃d',(∀k7:Int×List Int→Option (Bool×List Int),AO N l0 c k7 j10 m (s:Int) d=k7 (j10,d'))∧Sw i b d d'
  |0,s,d,_,_,_,_=>⟨d,fun k7=>by rw[AO],.refl d⟩
  | m+1,s,d,h1,h2,hl,hr=>by
    have hbig:=hr.big
    have hc:=cmp_eq (N:=N) hr
    obtain⟨t,rfl⟩: ∃t,s=t+1:=⟨s-1,by omega⟩
    have e1:((t+1:Nat):Int)-1=(t:Int):=by omega
    have e2:((t+1:Nat):Int)+1=((t+1+1:Nat):Int):=by omega
    have step: ∀k7:Int×List Int→Option (Bool×List Int),AO N l0 c k7 j10 (m+1) ((t+1:Nat):Int) d=if ltI c (at0 d (t+1)) (at0 d t)=true then AO N l0 c k7 j10 m ((t+1+1:Nat):Int) (swD d (t+1) t)else k7 (j10,d):=fun k7=>by
      rw[AO]
      simp(disch:=omega) only[e1,e2,swD,Ak,AZ,KJ,Option.bind_some,hc,Hr,Int.toNat_natCast]
    cases hlt:ltI c (at0 d (t+1)) (at0 d t)
    · exact⟨d,fun k7=>by rw[step,hlt];rfl,.refl d⟩
    · obtain⟨d',f1,f2⟩:=Q7 hb (j10:=j10) m (t+1+1) (swD d (t+1) t) (by omega) (by omega) (by rw[EU];exact hl) (hr.sw (by omega) (by omega))
      exact⟨d',fun k7=>by rw[step,hlt,if_pos rfl,f1],(Sw.one (by omega) (by omega)).trans f2⟩
theorem Asc'.more (hr:Row c d) (hi:i<d.length){t:Nat} (e:i=t+1) (ht:a≤t) (h:Asc' c a i d) (hl:ltI c (at0 d i) (at0 d t)=false):Asc' c a (i+1) d:=by
  intro p q h1 h2 h3
  by_cases e2:q=i
  · subst e2
    have hg:=hr.gt (i:=q) (j:=t) (by omega) (by omega) (by omega) hl
    by_cases e3:p=t
    · rw[e3];exact hg
    · exact OW (h p t h1 (by omega) (by omega)) hg
  · exact h p q h1 h2 (by omega)
theorem TN (hb:b≤l0) (hl:d.length=l0) (hr:Row c d): ∀(k i:Nat),b<k+i→a<i→i≤b→Asc' c a i d→
    ∃i':Nat,(∀k11:Int→Option (Bool×List Int),AU N l0 (b:Int) c d k11 k (i:Int)=k11 (i':Int))∧i≤i'∧i'≤b∧Asc' c a i' d∧(i'<b→ltI c (at0 d i') (at0 d (i'-1))=true)
  |0,i,h,_,_,_=>by omega
  | k+1,i,h1,h2,h3,hA=>by
    have hbig:=hr.big
    have hc:=cmp_eq (N:=N) hr
    obtain⟨t,rfl⟩: ∃t,i=t+1:=⟨i-1,by omega⟩
    have e1:((t+1:Nat):Int)-1=(t:Int):=by omega
    have e2:((t+1:Nat):Int)+1=((t+1+1:Nat):Int):=by omega
    by_cases hib:t+1<b
    · have step: ∀k11:Int→Option (Bool×List Int),AU N l0 (b:Int) c d k11 (k+1) ((t+1:Nat):Int)=if(!ltI c (at0 d (t+1)) (at0 d t))=true then AU N l0 (b:Int) c d k11 k ((t+1+1:Nat):Int)else k11 ((t+1:Nat):Int):=fun k11=>by
        rw[AU]
        simp only[AR]
        rw[if_pos (by simp only[decide_eq_true_eq];omega)]
        simp(disch:=omega) only[e1,e2,Ak,AZ,KJ,Option.bind_some,hc,Hr,Int.toNat_natCast]
      cases hlt:ltI c (at0 d (t+1)) (at0 d t)
      · obtain⟨i',f1,f2,f3,f4,f5⟩:=TN hb hl hr k (t+1+1) (by omega) (by omega) (by omega) (hA.more hr (by omega) rfl (by omega) hlt)
        exact⟨i',fun k11=>by rw[step,hlt,if_pos (by decide),f1],by omega,f3,f4,f5⟩
      · exact⟨t+1,fun k11=>by rw[step,hlt];rfl,Nat.le_refl _,h3,hA,fun _=>by rw[Nat.add_sub_cancel];exact hlt⟩
    · refine⟨t+1,fun k11=>?_,Nat.le_refl _,h3,hA,fun h=>by omega⟩
      rw[AU]
      simp only[AR]
      rw[if_neg (by simp only[decide_eq_true_eq];omega),if_neg (by decide)]
theorem Ta (hb:b≤l0) (hN:l0+2≤N): ∀(m i:Nat) (d:List Int),a<i→i≤b→d.length=l0→Row c d→Bel c a b d→Asc' c a i d→
    Ok (AP N l0 (a:Int) (b:Int) c (fun j1=>some (false,j1)) m (i:Int) d) fun r=>Sw a b d r.2∧(r.1=true→Asc' c a b r.2)
  | 0,i,d,_,_,_,_,_,_=>by
    rw[AP]
    exact Ok.ret ⟨.refl d,fun h=>by cases h⟩
  | m+1,i,d,h1,h2,hl,hr,hB,hA=>by
    have hbig:=hr.big
    rw[AP]
    simp only[AR]
    obtain⟨i',f1,f2,f3,f4,f5⟩:=TN (N:=N) (a:=a) hb hl hr N i (by omega) h1 h2 hA
    rw[f1]
    by_cases hib:i'=b
    · rw[if_pos (by simp[hib])]
      exact Ok.ret ⟨.refl d,fun _=>by rw[←hib];exact f4⟩
    · rw [if_neg (by simp;omega),show(b:Int)-(a:Int)=((b-a:Nat):Int) by omega,Ak (by omega)]
      by_cases h50:b-a<50
      · rw[if_pos (by simp only[decide_eq_true_eq];omega)]
        exact Ok.ret ⟨.refl d,fun h=>by cases h⟩
      · obtain⟨t,rfl⟩: ∃t,i'=t+1:=⟨i'-1,by omega⟩
        have e1:((t+1:Nat):Int)-1=(t:Int):=by omega
        have e2:((t+1:Nat):Int)+1=((t+1+1:Nat):Int):=by omega
        have e3:((t+1:Nat):Int)-(a:Int)=((t+1-a:Nat):Int):=by omega
        have e4:(b:Int)-((t+1:Nat):Int)=((b-(t+1):Nat):Int):=by omega
        have e5:((b:Int)-((t+1+1:Nat):Int)).toNat=b-(t+1+1):=by omega
        have hlt:=f5 (by omega)
        rw[Nat.add_sub_cancel]at hlt
        rw[if_neg (by simp only[decide_eq_true_eq];omega)]
        simp(disch:=omega) only[e1,e2,e3,e4,e5,Ak,AZ,KJ,Option.bind_some,Int.toNat_natCast]
        have esw:(d.set (t+1) (at0 d t)).set t (at0 d (t+1))=swD d (t+1) t:=rfl
        rw[esw]
        have hr2:=hr.sw (i:=t+1) (j:=t) (by omega) (by omega)
        have hs2:Sw a b d (swD d (t+1) t):=Sw.one (by omega) (by omega)
        have hB2:=hs2.bel (by omega) hB
        have right: ∀d2:List Int,d2.length=l0→Row c d2→Sw a b d d2→Asc' c a (t+1) d2→Ok (if decide (((b-(t+1):Nat):Int)≥2)=true then AO N l0 c (fun j6=>AP N l0 (a:Int) (b:Int) c (fun j1=>some (false,j1)) m j6.1 j6.2) ((t+1:Nat):Int) (b-(t+1+1)) ((t+1+1:Nat):Int) d2 else AP N l0 (a:Int) (b:Int) c (fun j1=>some (false,j1)) m ((t+1:Nat):Int) d2) fun r=>Sw a b d r.2∧(r.1=true→Asc' c a b r.2):=by
          intro d2 k1 k2 k3 k4
          have go: ∀d3:List Int,Sw (t+1) b d2 d3→Ok (AP N l0 (a:Int) (b:Int) c (fun j1=>some (false,j1)) m ((t+1:Nat):Int) d3) fun r=>Sw a b d r.2∧(r.1=true→Asc' c a b r.2):=fun d3 hd3=>by
            have hall:=k3.trans (hd3.mono (by omega) (Nat.le_refl _))
            refine(Ta hb hN m (t+1) d3 (by omega) (by omega) (by rw[hd3.len];exact k1) (hd3.row (by omega) k2) (hall.bel (by omega) hB) (fun p q p1 p2 p3=>?_)).mono fun r h=>⟨hall.trans h.1,h.2⟩
            rw[hd3.out (by omega) (.inl (by omega)),hd3.out (by omega) (.inl (by omega))]
            exact k4 p q p1 p2 p3
          split
          · obtain⟨d3,g1,g2⟩:=Q7 (N:=N) (c:=c) (i:=t+1) hb (j10:=((t+1:Nat):Int)) (b-(t+1+1)) (t+1+1) d2 (by omega) (by rename_i h;simp only[decide_eq_true_eq]at h;omega) k1 k2
            rw[g1]
            exact go d3 g2
          · exact go d2 (.refl d2)
        split
        · obtain⟨d2,g1,g2,g3⟩:=Tv (N:=N) (a:=a) (i:=t) hb (by omega) t N (swD d (t+1) t) (by omega) (Nat.le_refl _) (by rw[EU];exact hl) (by omega) hr2 hB2 (fun p q p1 p2 p3 p4=>by
            rw[Hd (by omega) (by omega),Hd (by omega) (by omega),if_neg (by omega),if_neg (by omega),if_neg (by omega),if_neg (by omega)]
            exact f4 p q p1 p2 (by omega))
          rw[g1]
          exact right d2 (by rw[g2.len,EU];exact hl) (g2.row (by rw[EU];omega) hr2) (hs2.trans (g2.mono (Nat.le_refl _) (by omega))) g3
        · rename_i h
          simp only[decide_eq_true_eq]at h
          refine right (swD d (t+1) t) (by rw[EU];exact hl) hr2 hs2 (fun p q p1 p2 p3=>?_)
          omega
theorem AJg (hr:Row c d) (hab:a<b) (hb:b≤d.length) (hN:d.length+2≤N) (hB:Bel c a b d):Ok (BC N d.length d (a:Int) (b:Int) c) fun r=>Sw a b d r.2∧(r.1=true→Asc' c a b r.2):=by
  have hbig:=hr.big
  unfold BC
  simp only[AR]
  rw[AZ (by omega),show(a:Int)+1=((a+1:Nat):Int) by omega,Ak (by omega)]
  exact Ta hb hN _ (a+1) d (by omega) (by omega) rfl hr hB (fun p q p1 p2 p3=>by omega)
theorem Ox (hr:Row c d) (hi:i<d.length) (hj:j<d.length) (s:Int):Ok (BF N d.length d (i:Int) (j:Int) s c) fun r=>r.2.2.1=d∧((r.1=(i:Int)∧r.2.1=(j:Int))∨(r.1=(j:Int)∧r.2.1=(i:Int))):=by
  have hc:=cmp_eq (N:=N) hr
  unfold BF
  simp(disch:=omega) only[AZ,KJ,Option.bind_some,hc,Hr]
  split
  · exact Ok.ret ⟨rfl,.inr ⟨rfl,rfl⟩⟩
  · exact Ok.ret ⟨rfl,.inl ⟨rfl,rfl⟩⟩
theorem Tf{k:Nat} (hr:Row c d) (hi:i<d.length) (hj:j<d.length) (hk:k<d.length) (s:Int):Ok (BD N d.length d (i:Int) (j:Int) (k:Int) s c) fun r=>r.2.1=d∧ ∃m:Nat,r.1=(m:Int)∧(m=i∨m=j∨m=k):=by
  unfold BD
  refine(Ox hr hi hj s).bind fun r1 h1=>?_
  obtain⟨p,q,hp,hq,hpq⟩: ∃p q:Nat,r1.1=(p:Int)∧r1.2.1=(q:Int)∧((p=i∧q=j)∨(p=j∧q=i)):=by
    rcases h1.2 with⟨x,y⟩|⟨x,y⟩
    · exact⟨i,j,x,y,.inl ⟨rfl,rfl⟩⟩
    · exact⟨j,i,x,y,.inr ⟨rfl,rfl⟩⟩
  rw[h1.1,hp,hq]
  refine(Ox (i:=q) (j:=k) hr (by omega) hk _).bind fun r2 h2=>?_
  obtain⟨u,hu,hu2⟩: ∃u:Nat,r2.1=(u:Int)∧(u=q∨u=k):=by
    rcases h2.2 with⟨x,_⟩|⟨x,_⟩
    · exact⟨q,x,.inl rfl⟩
    · exact⟨k,x,.inr rfl⟩
  rw[h2.1,hu]
  refine(Ox (i:=p) (j:=u) hr (by omega) (by omega) _).bind fun r3 h3=>?_
  refine Ok.ret ⟨h3.1,?_⟩
  rcases h3.2 with⟨_,y⟩|⟨_,y⟩
  · exact⟨u,y,by omega⟩
  · exact⟨p,y,by omega⟩
theorem AA5 (hr:Row c d) (hi:i+1<d.length) (h0:0<i) (s:Int):Ok (Ay N d.length d (i:Int) s c) fun r=>r.2.1=d∧ ∃m:Nat,r.1=(m:Int)∧i≤m+1∧m≤i+1:=by
  have hbig:=hr.big
  unfold Ay
  rw[show(i:Int)-1=((i-1:Nat):Int) by omega,show(i:Int)+1=((i+1:Nat):Int) by omega,Ak (by omega),Ak (by omega)]
  refine(Tf (i:=i-1) (j:=i) (k:=i+1) hr (by omega) (by omega) hi s).bind fun r h=>?_
  obtain⟨h1,m,h2,h3⟩:=h
  exact Ok.ret ⟨h1,m,h2,by omega,by omega⟩
theorem AGw (hr:Row c d) (hab:a+12<b) (hb:b≤d.length):Ok (BX N d.length d (a:Int) (b:Int) c) fun r=>r.2.2=d∧ ∃m:Nat,r.1=(m:Int)∧a≤m∧m<b:=by
  have hbig:=hr.big
  unfold BX
  simp only[AR]
  obtain⟨l,rfl⟩: ∃l,b=a+l:=⟨b-a,by omega⟩
  have e1:((a+l:Nat):Int)-(a:Int)=(l:Int):=by omega
  have e2:(l:Int).tdiv 4=((l / 4:Nat):Int):=rfl
  have f1:(a:Int)+((l / 4:Nat):Int) * 1=((a+l / 4:Nat):Int):=by omega
  have f2:(a:Int)+((l / 4:Nat):Int) * 2=((a+2 * (l / 4):Nat):Int):=by omega
  have f3:(a:Int)+((l / 4:Nat):Int) * 3=((a+3 * (l / 4):Nat):Int):=by omega
  simp(disch:=omega) only[e1,e2,f1,f2,f3,Ak]
  have fin: ∀(x y z:Nat) (s:Int),a≤x→x<a+l→a≤y→y<a+l→a≤z→z<a+l→Ok (Option.bind (BD N d.length d (x:Int) (y:Int) (z:Int) s c) fun y15=>if(y15.2.2==0)=true then some (y15.1,(1:Int),y15.2.1)else if(y15.2.2==12)=true then some (y15.1,2,y15.2.1)else some (y15.1,0,y15.2.1)) fun r=>r.2.2=d∧ ∃m:Nat,r.1=(m:Int)∧a≤m∧m<a+l:=by
    intro x y z s h1 h2 h3 h4 h5 h6
    refine(Tf hr (by omega) (by omega) (by omega) s).bind fun r h=>?_
    obtain⟨k1,m,k2,k3⟩:=h
    split
    · exact Ok.ret ⟨k1,m,k2,by omega,by omega⟩
    · split
      · exact Ok.ret ⟨k1,m,k2,by omega,by omega⟩
      · exact Ok.ret ⟨k1,m,k2,by omega,by omega⟩
  rw[if_pos (by simp only[decide_eq_true_eq];omega)]
  by_cases h50:50≤l
  · rw[if_pos (by simp only[decide_eq_true_eq];omega)]
    refine(AA5 (i:=a+l / 4) hr (by omega) (by omega) 0).bind fun r1 h1=>?_
    obtain⟨k1,m1,k2,k3,k4⟩:=h1
    rw[k1]
    refine(AA5 (i:=a+2 * (l / 4)) hr (by omega) (by omega) _).bind fun r2 h2=>?_
    obtain⟨q1,m2,q2,q3,q4⟩:=h2
    rw[q1]
    refine(AA5 (i:=a+3 * (l / 4)) hr (by omega) (by omega) _).bind fun r3 h3=>?_
    obtain⟨w1,m3,w2,w3,w4⟩:=h3
    rw[w1,k2,q2,w2]
    exact fin m1 m2 m3 _ (by omega) (by omega) (by omega) (by omega) (by omega) (by omega)
  · rw[if_neg (by simp only[decide_eq_true_eq];omega)]
    exact fin _ _ _ 0 (by omega) (by omega) (by omega) (by omega) (by omega) (by omega)
theorem AGH:((List.range 2001).all fun n=>decide (n<8)||match Dj N (n:Int)with|some p=>decide (1≤p∧p≤2 * (n:Int))|none=>false)=true:=by kernel_rfl
theorem AHy{n:Nat} (h8:8≤n) (hn:n≤2000): ∃p:Int,Dj N (n:Int)=some p∧1≤p∧p≤2 * n:=by
  have:=List.all_eq_true.1 (AGH (N:=N)) n (List.mem_range.2 (by omega))
  rw[decide_eq_false (by omega),Bool.false_or]at this
  cases h:Dj N (n:Int)with
  |none=>rw[h]at this;cases this
  |some p=>rw[h]at this;exact⟨p,rfl,of_decide_eq_true this⟩
theorem AKG (x:Int){m:Nat} (hm:m<2^63): ∃o:Nat,Dc .u64 x (m:Int)=(o:Int)∧o≤m:=by
  unfold Dc
  have hb:(IntKind.u64).bits=64:=rfl
  rw[hb]
  have h1:(BitVec.ofInt 64 x&&&BitVec.ofInt 64 (m:Int)).toNat≤m:=by
    rw[BitVec.toNat_and]
    refine Nat.le_trans Nat.and_le_right ?_
    rw[BitVec.toNat_ofInt]
    omega
  refine⟨(BitVec.ofInt 64 x&&&BitVec.ofInt 64 (m:Int)).toNat,?_,h1⟩
  generalize (BitVec.ofInt 64 x&&&BitVec.ofInt 64 (m:Int)).toNat=v at h1
  simp[IntKind.wrap,IntKind.bits,IntKind.signed]
  omega
theorem Ri{p:Int} (hp:1≤p∧p≤2 * ((b-a:Nat):Int)) (hab:a+12<b) (hb:b≤l0) (hbig:l0≤2000): ∀(k i:Nat) (x:Int) (d:List Int),a≤i→i≤a+((b-a) / 4) * 2+2→a+((b-a) / 4) * 2+2<i+k→d.length=l0→
    Ok (Aj N l0 (a:Int) (b:Int) p k (i:Int) x d) fun d'=>Sw a b d d'
  |0,i,x,d,_,h,h2,_=>by omega
  | k+1,i,x,d,h1,h2,h3,hl=>by
    obtain⟨l,hbl⟩: ∃l,l=b-a:=⟨b-a,rfl⟩
    have hp':=hp
    rw[←hbl]at hp h2 h3
    have e1:(b:Int)-(a:Int)=(l:Int):=by omega
    have e2:(l:Int).tdiv 4=((l / 4:Nat):Int):=rfl
    have e3:((l / 4:Nat):Int) * 2=((l / 4 * 2:Nat):Int):=by omega
    have e4:(a:Int)+((l / 4 * 2:Nat):Int)=((a+l / 4 * 2:Nat):Int):=by omega
    have e5:(i:Int)+1=((i+1:Nat):Int):=by omega
    rw[Aj]
    simp only[AR]
    simp(disch:=omega) only[e1,e2,e3,e4,e5,Ak]
    by_cases hi:i≤a+l / 4 * 2+1
    · rw[if_pos (by simp only[decide_eq_true_eq];omega)]
      unfold Ff
      rw[Option.bind_some]
      dsimp only
      have ewr:wr .u64 (p-1)=((p-1).toNat:Int):=by
        simp[wr,IntKind.wrap,IntKind.bits,IntKind.signed];omega
      rw[ewr]
      generalize hX:JH .u64 _ _=X
      obtain⟨o,ho,hole⟩:=AKG X (m:=(p-1).toNat) (by omega)
      rw[ho]
      have swp: ∀q:Nat,q<l→ ∀y:Int,Ok (grd (0≤wr .i64 ((a:Int)+(q:Int))∧wr .i64 ((a:Int)+(q:Int))<(l0:Int)) (Option.bind (idx d (wr .i64 ((a:Int)+(q:Int)))) fun x10=>grd (0≤(i:Int)∧(i:Int)<(l0:Int)) (Option.bind (idx d (i:Int)) fun x11=>grd ((i:Int).toNat+1≤d.length) (grd ((wr .i64 ((a:Int)+(q:Int))).toNat+1≤d.length) (Aj N l0 (a:Int) (b:Int) p k ((i+1:Nat):Int) y ((d.set (i:Int).toNat x10).set (wr .i64 ((a:Int)+(q:Int))).toNat x11)))))) fun d'=>Sw a b d d':=by
        intro q hq y
        have e6:(a:Int)+(q:Int)=((a+q:Nat):Int):=by omega
        simp(disch:=omega) only[e6,Ak,AZ,KJ,Option.bind_some,Int.toNat_natCast]
        have:=Ri hp' hab hb hbig k (i+1) y (swD d i (a+q)) (by omega) (by omega) (by omega) (by rw[EU];exact hl)
        exact this.mono fun d' h'=>(Sw.one (by omega) (by omega)).trans h'
      try simp(disch:=omega) only[Ak]
      by_cases hol:l≤o
      · have e7:(o:Int)-(l:Int)=((o-l:Nat):Int):=by omega
        rw[if_pos (by simp only[decide_eq_true_eq];omega),e7]
        try simp(disch:=omega) only[Ak]
        have:=swp (o-l) (by omega) X
        simpa(disch:=omega) only[Ak]using this
      · rw[if_neg (by simp only[decide_eq_true_eq];omega)]
        have:=swp o (by omega) X
        simpa(disch:=omega) only[Ak]using this
    · rw[if_neg (by simp only[decide_eq_true_eq];omega)]
      exact Ok.ret (.refl d)
theorem AFr (hr:Row c d) (hab:a+12<b) (hb:b≤d.length) (hN:2 * d.length+10≤N):Ok (BQ N d.length d (a:Int) (b:Int) c) fun d'=>Sw a b d d':=by
  have hbig:=hr.big
  unfold BQ
  have e1:(b:Int)-(a:Int)=((b-a:Nat):Int):=by omega
  have e2:((b-a:Nat):Int).tdiv 4=(((b-a) / 4:Nat):Int):=rfl
  have e3:(((b-a) / 4:Nat):Int) * 2=(((b-a) / 4 * 2:Nat):Int):=by omega
  have e4:(a:Int)+(((b-a) / 4 * 2:Nat):Int)=((a+(b-a) / 4 * 2:Nat):Int):=by omega
  have e5:((a+(b-a) / 4 * 2:Nat):Int)-1=((a+(b-a) / 4 * 2-1:Nat):Int):=by omega
  simp(disch:=omega) only[e1,e2,e3,e4,e5,Ak]
  rw[if_pos (by simp only[decide_eq_true_eq];omega)]
  obtain⟨p,hp,hp2⟩:=AHy (N:=N) (n:=b-a) (by omega) (by omega)
  rw[hp,Option.bind_some]
  exact Ri hp2 hab hb hbig N _ _ d (by omega) (by omega) (by omega) rfl
end
end Go.VM
namespace Go.VM
section
variable{N:Nat}{c:ApiValue}{d d':List Int}{a b i j l0:Nat}
theorem AJe (h:Row c d) (hab:a≤b) (hb:b≤d.length) (hN:b<N):Ok (Az N d.length d a b c) fun d'=>Sw a b d d'∧Asc' c a b d':=by
  by_cases e:a<b
  · exact ALE h e hb hN
  · have hbig:=h.big
    unfold Az
    rw[show(a:Int)+1=((a+1:Nat):Int) by simp,Hw (by omega),AZ (by omega),show(((b:Nat):Int)-((a+1:Nat):Int)).toNat=0 by omega,AQ]
    exact Ok.ret ⟨.refl d,fun p q h1 h2 h3=>by omega⟩
theorem Bel.sub{a' b':Nat} (h:Bel c a b d) (ha:a'=a) (hb:b'≤b):Bel c a' b' d:=by
  subst ha
  rcases h with h|h
  · exact .inl h
  · exact .inr fun x x1 x2=>h x x1 (by omega)
theorem Xr{m:Nat} (h1:Asc' c a m d) (h2:Asc' c (m+1) b d) (lo: ∀x,a≤x→x<m→ltI c (at0 d x) (at0 d m)=true) (hi: ∀x,m<x→x<b→ltI c (at0 d m) (at0 d x)=true):Asc' c a b d:=by
  intro p q k1 k2 k3
  by_cases e1:q<m
  · exact h1 p q k1 k2 e1
  · by_cases e2:q=m
    · rw[e2];exact lo p k1 (by omega)
    · by_cases e3:p<m
      · exact OW (lo p k1 e3) (hi q (by omega) k3)
      · by_cases e4:p=m
        · rw[e4];exact hi q (by omega) k3
        · exact h2 p q (by omega) k2 k3
theorem QU (hN:2 * l0+10≤N) (D':Nat) (rec:Nat→List Int→Int→Int→Int→ApiValue→Option (List Int))
    (ih: ∀(a b:Nat) (d:List Int) (lim:Int),a≤b→b≤l0→b-a<D'→d.length=l0→Row c d→Bel c a b d→Ok (rec l0 d (a:Int) (b:Int) lim c) fun d'=>Sw a b d d'∧Asc' c a b d'):
    ∀(k a b:Nat) (lim:Int) (w1 w2:Bool) (d:List Int),a≤b→b≤l0→b-a<k→b-a≤D'→d.length=l0→Row c d→Bel c a b d→
    Ok (Al N l0 c rec k (a:Int) (b:Int) lim w1 w2 d) fun d'=>Sw a b d d'∧Asc' c a b d'
  |0,a,b,lim,w1,w2,d,_,_,h,_,_,_,_=>by omega
  | k + 1, a, b,lim,w1,w2,d,hab,hb,hk,hD,hl,hr,hB=>by
    have hbig:=hr.big
    have eba:(b:Int)-(a:Int)=((b-a:Nat):Int):=by omega
    rw[Al,eba,Ak (n:=((b-a:Nat):Int)) (by omega)]
    by_cases h12:b-a≤12
    · rw[if_pos (by simp only[decide_eq_true_eq];omega)]
      have:=AJe (N:=N) hr hab (by omega) (by omega)
      rw[hl]at this
      exact this.bind fun y h=>Ok.ret h
    rw[if_neg (by simp only[decide_eq_true_eq];omega)]
    by_cases hlim:lim=0
    · rw[if_pos (by simp[hlim])]
      have:=AJQ (N:=N) hr (by omega:a<b) (by omega) (by omega)
      rw[hl]at this
      exact this.bind fun y h=>Ok.ret h
    rw[if_neg (by simp[hlim])]
    have got: ∀d1,Sw a b d d1→d1.length=l0∧Row c d1∧Bel c a b d1:=fun d1 h=>⟨by rw[h.len];exact hl,h.row (by omega) hr,h.bel (by omega) hB⟩
    refine Ok.meet (fun j6=>Sw a b d j6.2) ?_ ?_
    · rintro ⟨lim',d1⟩ hs1
      obtain⟨hl1,hr1,hB1⟩:=got d1 hs1
      dsimp only
      have hpv:=AGw (N:=N) hr1 (by omega:a+12<b) (by omega)
      rw[hl1]at hpv
      refine hpv.bind fun y12 hy=>?_
      obtain⟨hy1,p,hp1,hp2,hp3⟩:=hy
      refine Ok.meet (fun j14=>(∃p:Nat,j14.1=(p:Int)∧a≤p∧p<b)∧Sw a b d j14.2.2) ?_ ?_
      · rintro ⟨p0,hint,d2⟩ ⟨⟨q,hq1,hq2,hq3⟩,hs2⟩
        dsimp only at hq1 hs2⊢
        subst hq1
        obtain⟨hl2,hr2,hB2⟩:=got d2 hs2
        refine Ok.meet (fun j20=>Sw a b d j20) ?_ ?_
        · intro d3 hs3
          obtain⟨hl3,hr3,hB3⟩:=got d3 hs3
          refine Ok.meet (fun j30=>j30=false) ?_ ?_
          · rintro _ rfl
            rw[if_neg (by decide)]
            have hpt:=AI8 (N:=N) hr3 hq2 hq3 (by omega) (by omega)
            rw[hl3]at hpt
            refine hpt.bind fun y40 hy40=>?_
            obtain⟨m,hm,hm1,hm2,hs4,hlo,hhi⟩:=hy40
            have hs4':=hs3.trans hs4
            obtain⟨hl4,hr4,hB4⟩:=got _ hs4'
            rw[hm,show(m:Int)-(a:Int)=((m-a:Nat):Int) by omega,show(b:Int)-(m:Int)=((b-m:Nat):Int) by omega,show(m:Int)+1=((m+1:Nat):Int) by omega]
            rw[Ak (n:=((m-a:Nat):Int)) (by omega),Ak (n:=((b-m:Nat):Int)) (by omega),Ak (n:=((m+1:Nat):Int)) (by omega)]
            generalize y40.2.2=d4 at *
            have hBr:Bel c (m+1) b d4:=.inr fun x x1 x2=>by rw[Nat.add_sub_cancel];exact hhi x (by omega) x2
            split
            · refine(ih a m d4 lim' hm1 (by omega) (by omega) hl4 hr4 (hB4.sub rfl (by omega))).bind fun d5 h5=>?_
              have hr5:=h5.1.row (by omega) hr4
              have hl5:d5.length=l0:=by rw[h5.1.len];exact hl4
              have o5: ∀x,m≤x→at0 d5 x=at0 d4 x:=fun x hx=>h5.1.out (by omega) (.inr hx)
              have hB5:Bel c (m+1) b d5:=.inr fun x x1 x2=>by rw[Nat.add_sub_cancel,o5 m (Nat.le_refl _),o5 x (by omega)];exact hhi x (by omega) x2
              refine(QU hN D' rec ih k (m+1) b lim' _ _ d5 (by omega) hb (by omega) (by omega) hl5 hr5 hB5).mono fun d6 h6=>⟨hs4'.trans ((h5.1.mono (Nat.le_refl _) (by omega)).trans (h6.1.mono (by omega) (Nat.le_refl _))),?_⟩
              have o6: ∀x,x<m+1→at0 d6 x=at0 d5 x:=fun x hx=>h6.1.out (by omega) (.inl hx)
              refine Xr (m:=m) (fun p q p1 p2 p3=>by rw[o6 p (by omega),o6 q (by omega)];exact h5.2 p q p1 p2 p3) h6.2 (fun x x1 x2=>?_) (fun x x1 x2=>?_)
              · rw[o6 x (by omega),o6 m (by omega),o5 m (Nat.le_refl _)]
                exact h5.1.all (by omega) (p:=fun v=>ltI c v (at0 d4 m)=true) hlo x x1 x2
              · rw[o6 m (by omega),o5 m (Nat.le_refl _)]
                refine h6.1.all (by omega) (p:=fun v=>ltI c (at0 d4 m) v=true) (fun y y1 y2=>?_) x (by omega) x2
                rw[o5 y (by omega)];exact hhi y (by omega) y2
            · refine(ih (m+1) b d4 lim' (by omega) hb (by omega) hl4 hr4 hBr).bind fun d5 h5=>?_
              have hr5:=h5.1.row (by omega) hr4
              have hl5:d5.length=l0:=by rw[h5.1.len];exact hl4
              have o5: ∀x,x<m+1→at0 d5 x=at0 d4 x:=fun x hx=>h5.1.out (by omega) (.inl hx)
              have hB5:Bel c a m d5:=by
                rcases hB4 with e|e
                · exact .inl e
                · refine .inr fun x x1 x2=>?_
                  rw[o5 (a-1) (by omega),o5 x (by omega)];exact e x x1 (by omega)
              refine(QU hN D' rec ih k a m lim' _ _ d5 hm1 (by omega) (by omega) (by omega) hl5 hr5 hB5).mono fun d6 h6=>⟨hs4'.trans ((h5.1.mono (by omega) (Nat.le_refl _)).trans (h6.1.mono (Nat.le_refl _) (by omega))),?_⟩
              have o6: ∀x,m≤x→at0 d6 x=at0 d5 x:=fun x hx=>h6.1.out (by omega) (.inr hx)
              refine Xr (m:=m) h6.2 (fun p q p1 p2 p3=>by rw[o6 p (by omega),o6 q (by omega)];exact h5.2 p q p1 p2 p3) (fun x x1 x2=>?_) (fun x x1 x2=>?_)
              · rw[o6 m (Nat.le_refl _),o5 m (by omega)]
                refine h6.1.all (by omega) (p:=fun v=>ltI c v (at0 d4 m)=true) (fun y y1 y2=>?_) x x1 x2
                rw[o5 y (by omega)];exact hlo y y1 y2
              · rw[o6 m (Nat.le_refl _),o6 x (by omega),o5 m (by omega)]
                exact h5.1.all (by omega) (p:=fun v=>ltI c (at0 d4 m) v=true) (fun y y1 y2=>hhi y (by omega) y2) x (by omega) x2
          · intro k31 hk31
            by_cases ha0:0<a
            · have hc:=cmp_eq (N:=N) hr3
              have e1:(a:Int)-1=((a-1:Nat):Int):=by omega
              rw[if_pos (by simp only[decide_eq_true_eq];omega),e1]
              simp(disch:=omega) only[Ak,AZ,KJ,Option.bind_some,hc,Hr]
              refine hk31 _ ?_
              rcases hB3 with e|e
              · omega
              · rw[e q hq2 hq3];rfl
            · rw[if_neg (by simp only[decide_eq_true_eq];omega)]
              exact hk31 _ rfl
        · intro k21 hk21
          refine Ok.meet (fun _=>True) ?_ ?_
          · intro j24 _
            cases j24
            · rw[if_neg (by decide)]
              exact hk21 d2 hs2
            · rw[if_pos rfl]
              have hpi:=AJg (N:=N) hr2 (by omega:a<b) (by omega) (by omega) hB2
              rw[hl2]at hpi
              refine hpi.bind fun y28 h28=>?_
              cases e28:y28.1
              · rw[if_neg (by decide)]
                exact hk21 _ (hs2.trans h28.1)
              · rw[if_pos rfl]
                exact Ok.ret ⟨hs2.trans h28.1,h28.2 e28⟩
          · intro k25 hk25
            split
            · split
              · exact hk25 _ trivial
              · exact hk25 _ trivial
            · exact hk25 _ trivial
      · intro k15 hk15
        split
        · have hrv:=ALM (N:=N) hr1 (by omega:a<b) (by omega) (by omega)
          rw[hl1]at hrv
          rw[hy1]
          refine hrv.bind fun d2 h2=>hk15 _ ⟨⟨b-1-(p-a),?_,by omega,by omega⟩,hs1.trans h2⟩
          rw[hp1]
          dsimp only
          rw[show(b:Int)-1=((b-1:Nat):Int) by omega,show(p:Int)-(a:Int)=((p-a:Nat):Int) by omega,Ak (n:=((b-1:Nat):Int)) (by omega),Ak (n:=((p-a:Nat):Int)) (by omega),show((b-1:Nat):Int)-((p-a:Nat):Int)=((b-1-(p-a):Nat):Int) by omega,Ak (by omega)]
        · refine hk15 _ ⟨⟨p,hp1,hp2,hp3⟩,?_⟩
          dsimp only
          rw[hy1];exact hs1
    · intro k7 hk7
      split
      · exact hk7 (lim,d) (.refl d)
      · have hbr:=AFr (N:=N) hr (by omega:a+12<b) (by omega) (by omega)
        rw[hl]at hbr
        exact hbr.bind fun y10 h10=>hk7 _ h10
theorem AGQ (hN:2 * l0+10≤N): ∀(D a b:Nat) (d:List Int) (lim:Int),a≤b→b≤l0→b-a<D→d.length=l0→Row c d→Bel c a b d→
    Ok (Ai N D l0 d (a:Int) (b:Int) lim c) fun d'=>Sw a b d d'∧Asc' c a b d'
  |0,a,b,d,lim,_,_,h,_,_,_=>by omega
  | D+1,a,b,d,lim,hab,hb,hD,hl,hr,hB=>by
    rw[Ai]
    exact QU hN D _ (fun a b d lim h1 h2 h3 h4 h5 h6=>AGQ hN D a b d lim h1 h2 h3 h4 h5 h6) N a b lim true true d hab hb (by omega) (by omega) hl hr hB
theorem AJ4:((List.range 2001).all fun n=>(Ho N (wr .u64 (n:Int))).isSome)=true:=by kernel_rfl
theorem AHn (hr:Row c d) (hN:2 * d.length+10≤N):Ok (Bo N d.length d c) fun d'=>Sw 0 d.length d d'∧Asc' c 0 d.length d':=by
  have hbig:=hr.big
  unfold Bo
  have:=List.all_eq_true.1 (AJ4 (N:=N)) d.length (List.mem_range.2 (by omega))
  obtain⟨y,hy⟩:=Option.isSome_iff_exists.1 this
  rw[hy,Option.bind_some]
  refine(AGQ (N:=N) hN N 0 d.length d y (by omega) (Nat.le_refl _) (by omega) rfl hr (.inl rfl)).bind fun d' h=>Ok.ret h
end
def KL (n:Nat):List Int:=(List.range n).map fun i:Nat=>(i:Int)
theorem Fu (n:Nat):(KL n).length=n:=by simp[KL]
theorem ABK{n i:Nat} (h:i<n):at0 (KL n) i=(i:Int):=by
  unfold at0 KL
  rw[List.getD_eq_getElem?_getD,List.getElem?_map,List.getElem?_range h];rfl
theorem AFE (n:Nat):KL (n+1)=KL n++[(n:Int)]:=by simp[KL,List.range_succ]
section
variable{N:Nat}{c:ApiValue}
theorem AJT (hn:c.keys.Nodup) (hb:c.keys.length≤2000):Row c (KL c.keys.length):=by
  refine⟨by rw[Fu];exact hb,fun i hi=>?_,fun i j hi hj hne=>?_⟩
  · rw[Fu]at hi
    rw[ABK hi];exact⟨by omega,by omega⟩
  · rw[Fu]at hi hj
    rw[ABK hi,ABK hj]
    unfold ltI kth
    rw[Int.toNat_natCast,Int.toNat_natCast]
    simp only[List.getD_eq_getElem?_getD,List.getElem?_eq_getElem hi,List.getElem?_eq_getElem hj,Option.getD_some]
    rcases AA6 c.keys[i] c.keys[j]with e|e|e
    · exact .inl e
    · have hp:=List.pairwise_iff_getElem.1 hn
      rcases Nat.lt_or_gt_of_ne hne with q|q
      · exact absurd e (hp i j hi hj q)
      · exact absurd e.symm (hp j i hj hi q)
    · exact .inr e
theorem QO{k2:List Int→Option (List Int)} (hb:c.items.length≤1000000): ∀(m i:Nat),i+m=c.items.length→CU N c k2 m (i:Int) (KL i++List.replicate m 0)=k2 (KL c.items.length)
  | 0,i,h=>by
    rw[CU,List.replicate_zero,List.append_nil,show i=c.items.length by omega]
  | m+1,i,h=>by
    rw[CU,show(c.items.length:Int).toNat=c.items.length from Int.toNat_natCast _,Int.toNat_natCast,AZ (by omega),AZ (by simp[Fu]),show(i:Int)+1=((i+1:Nat):Int) by omega]
    have e:(KL i++List.replicate (m+1) (0:Int)).set i (i:Int)=KL (i+1)++List.replicate m 0:=by
      rw[List.set_append_right _ _ (by rw[Fu];exact Nat.le_refl _),Fu,Nat.sub_self,List.replicate_succ,List.set_cons_zero,AFE,List.append_assoc];rfl
    rw[e]
    exact QO hb m (i+1) (by omega)
theorem TJ{K:List Int→Option (List Int)} (hb:c.items.length≤1000000):grd (QB (c.items.length:Int) 8) (grd ((-4611686018427387904:Int)≤0∧((((c.items.length:Int).toNat:Int)):Int)≤4611686018427387904) (CU N c K (((((c.items.length:Int).toNat:Int)):Int)-0).toNat 0 (List.replicate (c.items.length:Int).toNat 0)))=K (KL c.items.length):=by
  have e:(c.items.length:Int).toNat=c.items.length:=Int.toNat_natCast _
  rw[AZ (by unfold QB;omega),e,AZ (by omega),show((c.items.length:Int)-0).toNat=c.items.length by omega]
  exact QO hb c.items.length 0 (by omega)
theorem AEZ (hk:(c.kind==7)=false) (hb:c.items.length≤1000000):ED N c=some (KL c.items.length):=by
  unfold ED
  simp only[AR]
  rw[TJ hb,hk,if_neg (by decide),Int.toNat_natCast,Fu,AZ rfl]
theorem AIl{d:List Int} (h:Asc' c 0 d.length d):Asc (d.map (kth c)):=by
  unfold Asc
  rw[List.pairwise_map,List.pairwise_iff_getElem]
  intro i j hi hj hij
  have:=h i j (by omega) hij hj
  rw[Qr hi,Qr hj]at this
  unfold ltI at this
  unfold leB
  rw[this];simp
theorem AGY (hl:c.keys.length=c.items.length):(KL c.items.length).map (kth c)=c.keys:=by
  refine List.ext_getElem (by simp[Fu,hl]) fun i h1 h2=>?_
  rw[List.getElem_map]
  have hi:i<c.items.length:=by omega
  have:(KL c.items.length)[i]'(by rw[Fu];exact hi)=(i:Int):=by simp[KL]
  rw[this,kth,Int.toNat_natCast,List.getD_eq_getElem?_getD,List.getElem?_eq_getElem h2];rfl
theorem ADP (hk:(c.kind==7)=true) (hl:c.keys.length=c.items.length) (hn:c.keys.Nodup) (hb:c.keys.length≤2000) (hN:10000≤N):Ok (ED N c) fun l=>l.map (kth c)=Il c.keys∧l.Perm (KL c.items.length):=by
  have hr:=AJT hn hb
  rw[hl]at hr
  have hs:=AHn (N:=N) hr (by rw[Fu];omega)
  rw[Fu]at hs
  unfold ED
  simp only[AR]
  rw[TJ (by omega),hk,if_pos rfl,Int.toNat_natCast]
  refine hs.bind fun d' h=>?_
  have hlen:d'.length=c.items.length:=by rw[h.1.len,Fu]
  rw[AZ hlen]
  have hperm:=h.1.perm (by rw[Fu];exact Nat.le_refl _)
  refine Ok.ret ⟨?_,hperm⟩
  refine Re ?_ (AIl (by rw[hlen];exact h.2)) (OY _)
  have:=hperm.map (kth c)
  rw[AGY hl]at this
  exact this.trans (Dw _).symm
end
end Go.VM
namespace Go.VM
def zeroV:ApiValue:=ApiValue.mk 0 [] [] []
def Gn:List (List UInt8)→List ApiValue→List UInt8→ApiValue×Bool
  |k::ks,x::xs,key=>if k==key then(x,true)else Gn ks xs key
  |_,_,_=>(zeroV,false)
def Sm (v:ApiValue) (key:List UInt8):ApiValue×Bool:=if v.kind==7 then Gn v.keys v.items key else(zeroV,false)
mutual
def II:ApiValue→Nat
  |⟨_,_,_,items⟩=>1+Cj items
def Cj:List ApiValue→Nat
  |[]=>0
  |x::xs=>II x+Cj xs
end
theorem Ib (v:ApiValue):II v=1+Cj v.items:=by cases v;rw[II]
inductive okB (B:Nat):Nat→ApiValue→Prop
  |mk{d:Nat} (v:ApiValue) (ht:v.text.length≤300 * B) (hk:v.keys.length≤810+100 * B) (hl: ∀k,k∈v.keys→k.length≤300 * B) (hi:v.items.length≤800+100 * B) (h: ∀x,x∈v.items→okB B d x):okB B (d+1) v
abbrev okW:Nat→ApiValue→Prop:=okB 1
section
variable{N B:Nat}
theorem okB.text{d:Nat}{v:ApiValue}:okB B d v→v.text.length≤300 * B|.mk _ h _ _ _ _=>h
theorem okB.keys{d:Nat}{v:ApiValue}:okB B d v→v.keys.length≤810+100 * B|.mk _ _ h _ _ _=>h
theorem okB.klen{d:Nat}{v:ApiValue}:okB B d v→ ∀k,k∈v.keys→k.length≤300 * B|.mk _ _ _ h _ _=>h
theorem okB.items{d:Nat}{v:ApiValue}:okB B d v→v.items.length≤800+100 * B|.mk _ _ _ _ h _=>h
theorem okB.sub{d:Nat}{v:ApiValue}:okB B (d+1) v→ ∀x,x∈v.items→okB B d x|.mk _ _ _ _ _ h=>h
theorem okB.pos{d:Nat}{v:ApiValue}:okB B d v→0<d|.mk _ _ _ _ _ _=>by omega
theorem okW.text{d:Nat}{v:ApiValue} (h:okW d v):v.text.length≤300:=okB.text h
theorem okW.keys{d:Nat}{v:ApiValue} (h:okW d v):v.keys.length≤910:=okB.keys h
theorem okW.klen{d:Nat}{v:ApiValue} (h:okW d v): ∀k,k∈v.keys→k.length≤300:=okB.klen h
theorem okW.items{d:Nat}{v:ApiValue} (h:okW d v):v.items.length≤900:=okB.items h
theorem okW.sub{d:Nat}{v:ApiValue} (h:okW (d+1) v): ∀x,x∈v.items→okW d x:=okB.sub h
theorem okB.mono{d:Nat}{v:ApiValue} (h:okB B d v): ∀e,d≤e→okB B e v:=by
  induction h with
  | mk v ht hk hl hi h ih=>
    intro e he
    obtain⟨e',rfl⟩: ∃e',e=e'+1:=⟨e-1,by omega⟩
    exact .mk v ht hk hl hi fun x hx=>ih x hx e' (by omega)
theorem TG (v:ApiValue) (key:List UInt8) (k2:Unit→Option (ApiValue×Bool)): ∀(ks:List (List UInt8)) (i:Int),(v.items.length:Int)≤i→DY N v key k2 ks i=k2 ()
  |[],i,h=>by rw[DY]
  | x::ks,i,h=>by
    have h3:decide (i<(v.items.length:Int))=false:=by simp;omega
    rw[DY,AR,h3,TG v key k2 ks (i+1) (by omega)]
    simp
theorem TH (v:ApiValue) (key:List UInt8) (k2:Unit→Option (ApiValue×Bool)) (h5:k2 ()=some (zeroV,false)): ∀(ks:List (List UInt8)) (xs xpre:List ApiValue),v.items=xpre++xs→
    DY N v key k2 ks (xpre.length:Int)=some (Gn ks xs key)
  | [],xs,xpre,hx=>by
    rw[DY];simp[h5,Gn]
  | x::ks,[],xpre,hx=>by
    have e:Gn (x::ks) [] key=(zeroV,false):=by simp[Gn]
    rw[TG v key k2 _ _ (by rw[hx];simp),h5,e]
  | x::ks,y::ys,xpre,hx=>by
    have ih:=TH v key k2 h5 ks ys (xpre++[y]) (by rw[hx];simp)
    rw[DY,AR,AMT hx,AFH hx,Option.bind_some,Qg xpre y,ih,Gn]
    cases x==key<;>simp
theorem P9 (v:ApiValue) (key:List UInt8) (hb:v.keys.length≤4611686018427387904):I5 N v key=some (Sm v key):=by
  unfold I5 Sm
  cases h:(v.kind==7)
  · have:(v.kind !=7)=true:=by simp only[bne,h,Bool.not_false]
    rw[if_pos this];rfl
  · have:(v.kind !=7)=false:=by simp only[bne,h,Bool.not_true]
    rw[this,if_neg (by simp),AR,AA8 (by omega)]
    exact TH (N:=N) v key (fun _=>some (zeroV,false)) rfl v.keys v.items [] rfl
inductive okD:Nat→ApiValue→Prop
  |mk{d:Nat} (v:ApiValue) (hk:v.keys.length≤4611686018427387904) (hi:v.items.length≤4611686018427387904) (h: ∀x,x∈v.items→okD d x):okD (d+1) v
theorem okB.dB{d:Nat}{v:ApiValue} (h:okB B d v) (hB:B≤1000):okD d v:=by
  induction h with
  |mk v ht hk hl hi h ih=>exact .mk v (by omega) (by omega) ih
theorem okW.d{d:Nat}{v:ApiValue} (h:okW d v):okD d v:=okB.dB h (by omega)
end
end Go.VM
namespace Go.VM
section
variable{N:Nat}
theorem ZY: ∀(l:List UInt8) (c:UInt8),Go.Lib.indexByte l c=if l.contains c=true then(((l.takeWhile (· !=c)).length:Nat):Int)else-1
  |[],c=>rfl
  | x::l,c=>by
    have ih:=ZY l c
    rw[Go.Lib.indexByte,List.contains_cons]
    by_cases e:x=c
    · subst e;simp
    · have e1:(c==x)=false:=by simpa using fun h:c=x=>e h.symm
      have e2:(x==c)=false:=by simpa using e
      have e3:(x !=c)=true:=by simpa using e
      rw[e1,e2,Bool.false_or,List.takeWhile_cons,e3]
      simp only[Bool.false_eq_true,if_false,if_true,List.length_cons]
      by_cases k:l.contains c=true
      · rw[if_pos k]at ih
        rw[if_pos k,ih]
        have:(((((l.takeWhile (· !=c)).length:Nat):Int))== -1)=false:=by
          simp only[beq_eq_false_iff_ne,ne_eq];omega
        rw[this];simp
      · rw[if_neg k]at ih
        rw[if_neg k,ih];rfl
theorem ABF{α:Type} (p:α→Bool) (l:List α):l.drop (l.takeWhile p).length=l.dropWhile p:=by
  have:=List.takeWhile_append_dropWhile (p:=p) (l:=l)
  conv=>lhs;rw[←this]
  rw[List.drop_append,List.drop_of_length_le (by rw[this];exact Nat.le_refl _),this]
  simp
def R9 (c:UInt8) (l:List UInt8):List UInt8×List UInt8×Bool:=if l.contains c=true then(l.takeWhile (· !=c),(l.dropWhile (· !=c)).drop 1,true)else(l,[],false)
theorem AE9{c:UInt8}: ∀ {l:List UInt8},l.contains c=true→(l.takeWhile (· !=c)).length<l.length
  |[],h=>by cases h
  | x::l,h=>by
    rw[List.takeWhile_cons]
    by_cases e:x=c
    · subst e;simp
    · have e3:(x !=c)=true:=by simpa using e
      rw[List.contains_cons]at h
      have e1:(c==x)=false:=by simpa using fun h:c=x=>e h.symm
      rw[e1,Bool.false_or]at h
      rw[e3]
      have:=AE9 h
      simp only[if_true,List.length_cons];omega
theorem AFv (c:UInt8) (l:List UInt8) (hb:l.length≤2^60):strings_Cut N l [c]=some (R9 c l):=by
  unfold strings_Cut ER D8 R9
  have hk: ∀k:Bool→Option Int,(if((([c]:List UInt8).length:Int)==0)=true then k true else k ([c]==l))=k ([c]==l):=fun k=>rfl
  have hI:(Ab (fun j1:Bool=>if j1=true then some (0:Int)else if((([c]:List UInt8).length:Int)==1)=true then Option.bind (idx [c] 0) fun x5=>Option.bind (Bz N l (Am x5)) fun y6=>some y6 else if decide ((([c]:List UInt8).length:Int)≥(l.length:Int))=true then some (-1)else none) fun k2=>if((([c]:List UInt8).length:Int)==0)=true then k2 true else k2 ([c]==l))=some (Go.Lib.indexByte l c):=by
    refine(CK (a:=[c]==l) fun k=>rfl).trans ?_
    by_cases h:([c]==l)=true
    · have:l=[c]:=by have:=beq_iff_eq.1 h;exact this.symm
      subst this
      simp[Go.Lib.indexByte]
    · rw[if_neg h,if_pos (by rfl),show idx [c] 0=some c from rfl,Option.bind_some]
      unfold Bz
      rw[Kl];rfl
  rw[hI,Option.bind_some,ZY]
  by_cases h:l.contains c=true
  · have hlt:=AE9 h
    simp only[h,if_true]
    generalize hn:(l.takeWhile (· !=c)).length=n at *
    have w:wr .i64 ((n:Int)+(([c]:List UInt8).length:Int))=((n+1:Nat):Int):=by rw[Ak (by simp<;>omega)];simp
    rw[if_pos (by simp),show(0:Int)=((0:Nat):Int)from rfl,FE l 0 n (by omega) (by omega),Option.bind_some,w,FE l (n+1) l.length (by omega) (by omega),Option.bind_some,Option.bind_some]
    rw[List.drop_zero,Nat.sub_zero,←hn,NG,List.take_of_length_le (by simp),←List.drop_drop,ABF]
  · rw[if_neg h,if_neg h,if_neg (by decide),Option.bind_some]
theorem N9 (x c:UInt8):(Am x==Am c)=(x==c):=by
  by_cases h:x=c
  · subst h;simp
  · have: ¬x.toNat=c.toNat:=fun e=>h (UInt8.toNat_inj.1 e)
    have h2:(x==c)=false:=by simpa using h
    rw[h2];simp only[Am,beq_eq_false_iff_ne,ne_eq];omega
theorem Ji{α:Type} (x:α) (l:List α):sub (x::l) 1 (((x::l).length:Nat):Int)=some l:=by
  have:=FE (x::l) 1 (x::l).length (by simp) (Nat.le_refl _)
  rw[show(1:Int)=((1:Nat):Int)from rfl,this]
  simp
theorem QF (c:UInt8) (k2:List UInt8→Option (List UInt8)): ∀(l:List UInt8) (k:Nat),l.length<k→CZ N (Am c) k2 k l=k2 (l.dropWhile (· ==c))
  |[],k+1,_=>by rw[CZ,AR];rfl
  | x::l,k+1,h=>by
    simp only[List.length_cons]at h
    rw[CZ,AR,if_pos (by simp<;>omega),show idx (x::l) 0=some x from rfl,Option.bind_some,N9,List.dropWhile_cons]
    try dsimp only
    cases x==c
    · rfl
    · rw[if_pos rfl,Ji,Option.bind_some,QF c k2 l k (by omega)];rfl
theorem AFz (c:UInt8) (l:List UInt8) (hc:c.toNat<128) (hN:l.length<N):Dy N l [c]=some (l.dropWhile (· ==c)):=by
  unfold Dy
  refine(CK (a:=l==[]) fun k=>?_).trans ?_
  · cases l==[]<;>rfl
  try dsimp only
  by_cases h:l=[]
  · subst h;rfl
  · rw[if_neg (by simpa using h)]
    have:(Am c<128):=by simp only[Am];omega
    refine(CK (a:=true) fun k=>?_).trans ?_
    · rw[if_pos (by rfl),show idx [c] 0=some c from rfl,Option.bind_some,decide_eq_true this]
    try dsimp only
    rw[if_pos rfl,show idx [c] 0=some c from rfl,Option.bind_some]
    unfold strings_trimLeftByte
    rw[AR,QF c _ l N hN];rfl
def En (p:UInt8→Bool) (l:List UInt8):List UInt8:=(l.reverse.dropWhile p).reverse
theorem Jl (p:UInt8→Bool) (l:List UInt8) (x:UInt8):En p (l++[x])=if p x=true then En p l else l++[x]:=by
  unfold En
  rw[List.reverse_append,List.reverse_cons,List.reverse_nil,List.nil_append,List.singleton_append,List.dropWhile_cons]
  split<;>simp
theorem QY (p:UInt8→Bool) (l:List UInt8):(En p l).length≤l.length:=by
  unfold En
  have:=(List.dropWhile_sublist p (l:=l.reverse)).length_le
  simpa using this
theorem WV{α:Type} (l:List α) (x:α) (hb:l.length≤2^60):sub (l++[x]) 0 (wr .i64 ((((l++[x]).length:Nat):Int)-1))=some l:=by
  rw[Ak (by simp<;>omega),show(((l++[x]).length:Nat):Int)-1=(l.length:Int) by simp,show(0:Int)=((0:Nat):Int)from rfl,FE _ 0 l.length (by omega) (by simp)]
  simp
theorem Zd{α:Type} (l:List α) (x:α) (hb:l.length≤2^60):idx (l++[x]) (wr .i64 ((((l++[x]).length:Nat):Int)-1))=some x:=by
  rw[Ak (by simp<;>omega),show(((l++[x]).length:Nat):Int)-1=(l.length:Int) by simp,Ny]
  simp
theorem QH (c:UInt8) (k2:List UInt8→Option (List UInt8)): ∀(n:Nat) (l:List UInt8),l.length=n→n≤2^60→ ∀k:Nat,n<k→CQ N (Am c) k2 k l=k2 (En (· ==c) l)
  | 0,l,hl,hb,k+1,_=>by
    have:l=[]:=List.length_eq_zero_iff.1 hl
    subst this
    rw[CQ,AR];rfl
  | n+1,l,hl,hb,k+1,h=>by
    obtain⟨l',x,rfl⟩: ∃l' x,l=l'++[x]:=by
      have hne:l≠ []:=fun e=>by subst e;simp at hl
      exact⟨l.dropLast,l.getLast hne,(List.dropLast_concat_getLast hne).symm⟩
    have hl':l'.length=n:=by simpa using hl
    rw[CQ,AR,if_pos (by simp<;>omega),Zd l' x (by omega),Option.bind_some,N9,Jl]
    try dsimp only
    cases x==c
    · rfl
    · rw[if_pos rfl,if_pos rfl,WV l' x (by omega),Option.bind_some,QH c k2 n l' hl' (by omega) k (by omega)]
theorem AGB (c:UInt8) (l:List UInt8) (hc:c.toNat<128) (hb:l.length≤2^60) (hN:l.length<N):FU N l [c]=some (En (· ==c) l):=by
  unfold FU
  refine(CK (a:=l==[]) fun k=>?_).trans ?_
  · cases l==[]<;>rfl
  try dsimp only
  by_cases h:l=[]
  · subst h;rfl
  · rw[if_neg (by simpa using h)]
    have:(Am c<128):=by simp only[Am];omega
    refine(CK (a:=true) fun k=>?_).trans ?_
    · rw[if_pos (by rfl),show idx [c] 0=some c from rfl,Option.bind_some,decide_eq_true this]
    try dsimp only
    rw[if_pos rfl,show idx [c] 0=some c from rfl,Option.bind_some]
    unfold strings_trimRightByte
    rw[AR,QH c _ _ l rfl hb N hN];rfl
def YS (as:List Bool) (set:List UInt8):Prop:=as.length=256∧ ∀c:UInt8,as[c.toNat]?=some (set.contains c)
theorem Y5 (k2:List Bool→Option (List Bool×Bool)) (done:List UInt8): ∀(l:List UInt8) (done:List UInt8) (bn:List Bool),(∀c∈l,c.toNat<128)→YS bn done→ ∃as,Bt N k2 l bn=k2 as∧YS as (done++l)
  |[],done,bn,hl,hs=>⟨bn,by rw[Bt],by simpa using hs⟩
  | x::l,done,bn,hl,hs=>by
    have hx:=hl x (by simp)
    have c1: ¬Am x≥128:=by simp only[Am];omega
    obtain⟨as,h1,h2⟩:=Y5 k2 done l (done++[x]) (bn.set x.toNat true) (fun c hc=>hl c (by simp[hc])) ⟨by simp[hs.1],fun c=>by
      rw[List.getElem?_set]
      by_cases e:x.toNat=c.toNat
      · have:x=c:=UInt8.toNat_inj.1 e
        subst this
        rw[if_pos rfl,if_pos (by rw[hs.1];exact x.toNat_lt)]
        simp
      · rw[if_neg e,hs.2 c]
        have: ¬c=x:=fun h=>e (by rw[h])
        simp[this]⟩
    refine⟨as,?_,by simpa using h2⟩
    rw[Bt,if_neg (by simpa using c1),AZ (by simp only[Am];omega),AZ (by rw[hs.1];simp only[Am,Int.toNat_natCast];omega)]
    exact h1
theorem AFn (set:List UInt8) (hl: ∀c∈set,c.toNat<128) (hb:set.length≤1000): ∃as,strings_makeASCIISet N set=some (as,true)∧YS as set:=by
  unfold strings_makeASCIISet
  rw[AR,AZ (by unfold Bf;omega)]
  obtain⟨as,h1,h2⟩:=Y5 (N:=N) (fun j1=>grd (j1.length=256) (some (j1,true))) [] set [] (Us 256) hl ⟨R3,fun c=>by
    have:=c.toNat_lt
    rw[Us,List.getElem?_replicate,if_pos (by omega)];rfl⟩
  exact⟨as,by rw[h1,AZ h2.1],h2⟩
theorem Wz{as:List Bool}{set:List UInt8} (h:YS as set) (c:UInt8):Cx N as (Am c)=some (set.contains c,as):=by
  have:=c.toNat_lt
  unfold Cx
  rw[AZ (by simp only[Am];omega),IX,Ny,h.2 c];rfl
theorem QX (k2:List UInt8×List Bool→Option (List UInt8×List Bool)){as:List Bool}{set:List UInt8} (hs:YS as set): ∀(l:List UInt8) (k:Nat),l.length<k→CP N k2 k l as=k2 (l.dropWhile set.contains,as)
  |[],k+1,_=>by rw[CP];rfl
  | x::l,k+1,h=>by
    simp only[List.length_cons]at h
    rw[CP,if_pos (by simp<;>omega),show idx (x::l) 0=some x from rfl,Option.bind_some,Wz hs,Option.bind_some,List.dropWhile_cons]
    try dsimp only
    cases set.contains x
    · rfl
    · rw[if_pos rfl,Ji,Option.bind_some,QX k2 hs l k (by omega)];rfl
theorem ACY (l set:List UInt8) (h2:2≤set.length) (hs:set.length≤1000) (hl: ∀c∈set,c.toNat<128) (hN:l.length<N):Dy N l set=some (l.dropWhile set.contains):=by
  unfold Dy
  have hne:set≠ []:=fun e=>by subst e;simp at h2
  refine(CK (a:=l==[]) fun k=>?_).trans ?_
  · have:(set==[])=false:=by simpa using hne
    rw[this]
    cases l==[]<;>rfl
  try dsimp only
  by_cases h:l=[]
  · subst h;rfl
  · rw[if_neg (by simpa using h)]
    refine(CK (a:=false) fun k=>?_).trans ?_
    · rw[if_neg (by simp<;>omega)]
    try dsimp only
    obtain⟨as,e1,e2⟩:=AFn (N:=N) set hl hs
    rw[if_neg (by decide),e1,Option.bind_some,AZ R3,AZ e2.1,if_pos rfl]
    unfold strings_trimLeftASCII
    rw[AR,QX _ e2 l N hN];rfl
theorem AIj (c:UInt8) (l:List UInt8):strings_HasPrefix N l [c]=some (CV [c] l):=by
  unfold strings_HasPrefix Da
  cases l with
  |nil=>rfl
  | cons x l=>
    rw[if_pos (by simp<;>omega),show sub (x::l) 0 ((([c]:List UInt8).length:Nat):Int)=some [x] by
      rw[show(0:Int)=((0:Nat):Int)from rfl,FE _ 0 _ (by omega) (by simp)];rfl,Option.bind_some,Option.bind_some]
    unfold CV
    by_cases h:x=c
    · subst h;simp
    · have h': ¬c=x:=fun e=>h e.symm
      simp[h]
def AIF (n:Nat):Nat:=if 65≤n∧n≤90 then n+32 else n
def Kj (c:UInt8):UInt8:=UInt8.ofNat (AIF c.toNat)
theorem X8 (l:List UInt8) (hb:l.length≤2^60) (k2:List Int→Option (List UInt8)): ∀(t pre:List UInt8),l=pre++t→Dq N l k2 t (pre.length:Int) (List.map Am (pre.map Kj)++List.map Am t)=k2 (List.map Am (l.map Kj))
  |[],pre,h=>by rw[Dq,h];simp
  | c::t,pre,h=>by
    have hlen:pre.length<l.length:=by rw[h];simp
    have hc:=c.toNat_lt
    rw[Dq]
    refine(CK (a:=List.map Am (pre.map Kj)++(Am (Kj c)::List.map Am t)) fun k7=>?_).trans ?_
    · rw [AZ (by omega),List.map_cons]
      have hi:idx (List.map Am (pre.map Kj)++Am c::List.map Am t) (pre.length:Int)=some (Am c):=by
        have:=ABw (List.map Am (pre.map Kj)) (List.map Am t) (Am c)
        simpa using this
      rw[hi,Option.bind_some]
      refine(CK (a:=decide (65≤c.toNat∧c.toNat≤90)) fun k12=>?_).trans ?_
      · by_cases h1:65≤c.toNat
        · have:(65:Int)≤Am c:=by simp only[Am];omega
          rw[if_pos (decide_eq_true this)]
          congr 1
          simp only[Am,h1,true_and]
          congr 1;simp only[eq_iff_iff];omega
        · have: ¬(65:Int)≤Am c:=by simp only[Am];omega
          rw[if_neg (by simpa using this),decide_eq_false (fun h=>h1 h.1)]
      try dsimp only
      by_cases h1:65≤c.toNat∧c.toNat≤90
      · rw[if_pos (decide_eq_true h1),AZ (by simp<;>omega)]
        have e:Kj c=UInt8.ofNat (c.toNat+32):=by unfold Kj AIF;rw[if_pos h1]
        have e2:Am (Kj c)=wr .u8 (Am c+32):=by
          rw[e,AKR (by simp only[Am];omega)]
          simp only[Am]
          rw[toNat_ofNat (by omega)];simp
        rw[←e2]
        congr 1
        simp
      · rw[if_neg (by simpa using h1)]
        have e:Kj c=c:=by unfold Kj AIF;rw[if_neg h1];simp
        rw[e]
    · try dsimp only
      have:=X8 l hb k2 t (pre++[c]) (by rw[h];simp)
      rw[←Qg]at this
      rw[←this]
      simp
theorem lower_eq (l:List UInt8) (hb:l.length≤2^60):JJ N l=some (l.map Kj):=by
  unfold JJ
  rw[AR,AZ (by unfold Bf;omega)]
  have:=X8 (N:=N) l hb (fun j1=>grd (l.length≤j1.length∧Bf l.length) (some (List.map IR (List.take l.length j1)))) l [] rfl
  simp only[List.map_nil,List.nil_append,List.length_nil]at this
  rw[show(0:Int)=((0:Nat):Int)from rfl,this,AZ (by unfold Bf;simp;omega),List.take_of_length_le (by simp)]
  congr 1
  induction l with
  |nil=>rfl
  |cons c l ih=>simp[Kl]
end
end Go.VM
