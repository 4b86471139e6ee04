import Derived.Test.YtooeobhihpkicaaGreatDoorL2
import Derived.KernelRfl
import Derived.Test.YtooeobhihpkicaaGreatDoorDefs
set_option linter.unusedVariables false
set_option linter.unusedSimpArgs false
namespace Go.VM
section
variable{N:Nat}{c:ApiValue}{d d':List Int}{a b i j l0:Nat}
theorem ABZ{a0:List Int}{a1 a2 a3 x1 x2:Int}{k4:Int→Option (Int×Bool×List Int)}: ∀(k:Nat) (s:Int),Ay N l0 a0 a1 a2 a3 c x1 x2 k4 k s=Aa N l0 a1 c (wr .i64 (a2-1)) ((a0.set a1.toNat x1).set a3.toNat x2) k4 k s
  |0,s=>rfl
  | k+1,s=>by
    rw[Ay,Aa]
    simp only[Ab,ABZ k]
theorem ABd{a0:List Int}{a1 a3 x1 x2 j3:Int}{k17:Int→Option (Int×Bool×List Int)}: ∀(k:Nat) (s:Int),Az N l0 a0 a1 a3 c x1 x2 j3 k17 k s=AZ N l0 a1 c ((a0.set a1.toNat x1).set a3.toNat x2) j3 k17 k s
  |0,s=>rfl
  | k+1,s=>by
    rw[Az,AZ]
    simp only[Ab,ABd k]
theorem VG (hr:Row c d) (hl:d.length=l0) (ha:a<l0) (hj:j≤l0): ∀(k i:Nat),j<k+i→1≤k→i≤l0+1→
    ∃i':Nat,(∀k4:Int→Option (Int×Bool×List Int),Aa N l0 (a:Int) c ((j:Int)-1) d k4 k (i:Int)=k4 (i':Int))∧i≤i'∧(i'≤j∨i'=i)∧(∀x,i≤x→x<i'→ltI c (at0 d x) (at0 d a)=true)∧(i'<j→ltI c (at0 d i') (at0 d a)=false)
  |0,i,_,h,_=>by omega
  | k+1,i,h1,_,h3=>by
    have hbig:=hr.big
    have hc:=cmp_eq (N:=N) hr
    have e2:(i:Int)+1=((i+1:Nat):Int):=by omega
    by_cases hij:i<j
    · have step: ∀k4:Int→Option (Int×Bool×List Int),Aa N l0 (a:Int) c ((j:Int)-1) d k4 (k+1) (i:Int)=if ltI c (at0 d i) (at0 d a)=true then Aa N l0 (a:Int) c ((j:Int)-1) d k4 k ((i+1:Nat):Int)else k4 (i:Int):=fun k4=>by
        rw[Aa]
        simp only[Ab]
        rw[if_pos (by simp only[decide_eq_true_eq];omega)]
        simp(disch:=omega) only[e2,A8,AU,KW,Option.bind_some,hc,IE,Int.toNat_natCast]
      cases hlt:ltI c (at0 d i) (at0 d a)
      · exact⟨i,fun k4=>by rw[step,hlt];rfl,Nat.le_refl _,.inr rfl,fun x x1 x2=>by omega,fun _=>hlt⟩
      · obtain⟨i',f1,f2,f3,f4,f5⟩:=VG hr hl ha hj k (i+1) (by omega) (by omega) (by omega)
        refine⟨i',fun k4=>by rw[step,hlt,if_pos rfl,f1],by omega,.inl (by omega),fun x x1 x2=>?_,f5⟩
        by_cases e:x=i
        · rw[e];exact hlt
        · exact f4 x (by omega) x2
    · refine⟨i,fun k4=>?_,Nat.le_refl _,.inr rfl,fun x x1 x2=>by omega,fun h=>by omega⟩
      rw[Aa]
      simp only[Ab]
      rw[if_neg (by simp only[decide_eq_true_eq];omega),if_neg (by decide)]
theorem Ot (hr:Row c d) (hl:d.length=l0) (ha:a<l0): ∀(k j:Nat),j<k+i→1≤k→j≤l0→
    ∃j':Nat,(∀k4:Int→Option (Int×Bool×List Int),AZ N l0 (a:Int) c d (i:Int) k4 k ((j:Int)-1)=k4 ((j':Int)-1))∧j'≤j∧(i≤j'∨j'=j)∧(∀x,j'≤x→x<j→ltI c (at0 d x) (at0 d a)=false)∧(i<j'→ltI c (at0 d (j'-1)) (at0 d a)=true)
  |0,j,_,h,_=>by omega
  | k+1,j,h1,_,h3=>by
    have hbig:=hr.big
    have hc:=cmp_eq (N:=N) hr
    by_cases hij:i<j
    · obtain⟨t,rfl⟩: ∃t,j=t+1:=⟨j-1,by omega⟩
      have e1:((t+1:Nat):Int)-1=(t:Int):=by omega
      have step: ∀k4:Int→Option (Int×Bool×List Int),AZ N l0 (a:Int) c d (i:Int) k4 (k+1) (t:Int)=if(!ltI c (at0 d t) (at0 d a))=true then AZ N l0 (a:Int) c d (i:Int) k4 k ((t:Int)-1)else k4 (t:Int):=fun k4=>by
        rw[AZ]
        simp only[Ab]
        rw[if_pos (by simp only[decide_eq_true_eq];omega)]
        simp(disch:=omega) only[A8,AU,KW,Option.bind_some,hc,IE,Int.toNat_natCast]
      cases hlt:ltI c (at0 d t) (at0 d a)
      · obtain⟨j',f1,f2,f3,f4,f5⟩:=Ot hr hl ha k t (by omega) (by omega) (by omega)
        refine⟨j',fun k4=>by rw[e1,step,hlt,if_pos (by decide),f1],by omega,.inl (by omega),fun x x1 x2=>?_,f5⟩
        by_cases e:x=t
        · rw[e];exact hlt
        · exact f4 x x1 (by omega)
      · exact⟨t+1,fun k4=>by rw[e1,step,hlt];rfl,Nat.le_refl _,.inr rfl,fun x x1 x2=>by omega,fun _=>hlt⟩
    · refine⟨j,fun k4=>?_,Nat.le_refl _,.inr rfl,fun x x1 x2=>by omega,fun h=>by omega⟩
      rw[AZ]
      simp only[Ab]
      rw[if_neg (by simp only[decide_eq_true_eq];omega),if_neg (by decide)]
structure PtI (c:ApiValue) (a b i j:Nat) (d:List Int):Prop where
  lo: ∀x,a<x→x<i→ltI c (at0 d x) (at0 d a)=true
  hi: ∀x,j≤x→x<b→ltI c (at0 d a) (at0 d x)=true
theorem TG (hb:b≤l0) (hN:l0+2≤N): ∀(k i j:Nat) (d:List Int),a<i→a<j→j≤b→i≤j+1→j<k→d.length=l0→Row c d→PtI c a b i j d→
    ∃(m:Nat) (d':List Int),(∀k34:Int×List Int→Option (Int×Bool×List Int),Ah N l0 (a:Int) c k34 k (i:Int) ((j:Int)-1) d=k34 ((m:Int),d'))∧a≤m∧m<b∧Sw (a+1) b d d'∧PtI c a b (m+1) (m+1) d'
  |0,i,j,d,_,_,_,_,h,_,_,_=>by omega
  | k+1,i,j,d,h1,h2,h3,h4,h5,hl,hr,hp=>by
    have hbig:=hr.big
    obtain⟨i',f1,f2,f3,f4,f5⟩:=VG (N:=N) (a:=a) (j:=j) hr hl (by omega) (by omega) N i (by omega) (by omega) (by omega)
    obtain⟨j',g1,g2,g3,g4,g5⟩:=Ot (N:=N) (a:=a) (i:=i') hr hl (by omega) N j (by omega) (by omega) (by omega)
    have unf: ∀k34:Int×List Int→Option (Int×Bool×List Int),Ah N l0 (a:Int) c k34 (k+1) (i:Int) ((j:Int)-1) d=(fun j51:Int=>if decide ((i':Int)>j51)=true then k34 (j51,d)else grd (0≤j51∧j51<(l0:Int)) (Option.bind (idx d j51) fun x64=>grd (0≤(i':Int)∧(i':Int)<(l0:Int)) (Option.bind (idx d (i':Int)) fun x65=>grd ((i':Int).toNat+1≤d.length) (grd (j51.toNat+1≤d.length) (Ah N l0 (a:Int) c k34 k (wr .i64 ((i':Int)+1)) (wr .i64 (j51-1)) ((d.set (i':Int).toNat x64).set j51.toNat x65)))))) ((j':Int)-1):=fun k34=>by
      rw[Ah]
      simp only[Ab]
      rw[f1,g1]
    have hp2:PtI c a b i' j' d:=⟨fun x x1 x2=>by
        by_cases e:x<i
        · exact hp.lo x x1 e
        · exact f4 x (by omega) x2,fun x x1 x2=>by
        by_cases e:j≤x
        · exact hp.hi x e x2
        · exact hr.gt (i:=x) (j:=a) (by omega) (by omega) (by omega) (g4 x x1 (by omega))⟩
    by_cases hij:i'<j'
    · obtain⟨t,rfl⟩: ∃t,j'=t+1:=⟨j'-1,by omega⟩
      have e1:((t+1:Nat):Int)-1=(t:Int):=by omega
      have e2:(i':Int)+1=((i'+1:Nat):Int):=by omega
      have hg:=g5 hij
      have hf:=f5 (by omega)
      rw[Nat.add_sub_cancel]at hg
      have hne:i'≠t:=fun e=>by rw[e,hg]at hf;cases hf
      have hsw:=hr.sw (i:=i') (j:=t) (by omega) (by omega)
      obtain⟨m,d',q1,q2,q3,q4,q5⟩:=TG hb hN k (i'+1) t (swD d i' t) (by omega) (by omega) (by omega) (by omega) (by omega) (by rw[EY];exact hl) hsw ⟨fun x x1 x2=>by
          rw[H5 (by omega) (by omega),H5 (by omega) (by omega),if_neg (by omega: ¬a=t),if_neg (by omega: ¬a=i')]
          by_cases e1:x=t
          · omega
          · rw[if_neg e1]
            by_cases e2:x=i'
            · rw[if_pos e2];exact hg
            · rw[if_neg e2];exact hp2.lo x x1 (by omega),fun x x1 x2=>by
          rw[H5 (by omega) (by omega),H5 (by omega) (by omega),if_neg (by omega: ¬a=t),if_neg (by omega: ¬a=i')]
          by_cases e1:x=t
          · rw[if_pos e1];exact hr.gt (i:=i') (j:=a) (by omega) (by omega) (by omega) hf
          · rw[if_neg e1]
            by_cases e2:x=i'
            · omega
            · rw[if_neg e2];exact hp2.hi x (by omega) x2⟩
      refine⟨m,d',fun k34=>?_,q2,q3,(Sw.one (by omega) (by omega)).trans q4,q5⟩
      rw[unf,e1]
      dsimp only
      rw[if_neg (by simp only[decide_eq_true_eq];omega)]
      simp(disch:=omega) only[e2,A8,AU,KW,Option.bind_some,Int.toNat_natCast]
      exact q1 k34
    · obtain⟨t,rfl⟩: ∃t,j'=t+1:=⟨j'-1,by omega⟩
      have e1:((t+1:Nat):Int)-1=(t:Int):=by omega
      refine⟨t,d,fun k34=>?_,by omega,by omega,.refl d,fun x x1 x2=>hp2.lo x x1 (by omega),hp2.hi⟩
      rw[unf,e1]
      dsimp only
      rw[if_pos (by simp only[decide_eq_true_eq];omega)]
theorem WI{m:Nat} (hr:Row c d) (ham:a≤m) (hmb:m<b) (hb:b≤d.length) (hp:PtI c a b (m+1) (m+1) d):
    (∀x,a≤x→x<m→ltI c (at0 (swD d m a) x) (at0 (swD d m a) m)=true)∧(∀x,m<x→x<b→ltI c (at0 (swD d m a) m) (at0 (swD d m a) x)=true):=by
  have em:at0 (swD d m a) m=at0 d a:=by
    rw[H5 (by omega) (by omega)]
    by_cases e:m=a
    · rw[if_pos e,e]
    · rw[if_neg e,if_pos rfl]
  refine⟨fun x x1 x2=>?_,fun x x1 x2=>?_⟩
  · rw[em,H5 (by omega) (by omega)]
    by_cases e:x=a
    · rw[if_pos e];exact hp.lo m (by omega) (by omega)
    · rw[if_neg e,if_neg (by omega)];exact hp.lo x (by omega) (by omega)
  · rw[em,H5 (by omega) (by omega),if_neg (by omega),if_neg (by omega)]
    exact hp.hi x (by omega) x2
theorem AHL{p:Nat} (hr:Row c d) (hap:a≤p) (hpb:p<b) (hb:b≤d.length) (hN:d.length+2≤N):Ok (BZ N d.length d (a:Int) (b:Int) (p:Int) c) fun r=>
    ∃m:Nat,r.1=(m:Int)∧a≤m∧m<b∧Sw a b d r.2.2∧(∀x,a≤x→x<m→ltI c (at0 r.2.2 x) (at0 r.2.2 m)=true)∧(∀x,m<x→x<b→ltI c (at0 r.2.2 m) (at0 r.2.2 x)=true):=by
  have hbig:=hr.big
  have hr0:=hr.sw (i:=a) (j:=p) (by omega) (by omega)
  have hl0:(swD d a p).length=d.length:=EY
  unfold BZ
  simp only[Ab]
  simp(disch:=omega) only[AU,KW,Option.bind_some,Int.toNat_natCast,ABZ,ABd]
  have esw:(d.set a (at0 d p)).set p (at0 d a)=swD d a p:=rfl
  rw[esw,A8 (n:=(b:Int)-1) (by omega),show(a:Int)+1=((a+1:Nat):Int) by omega,A8 (by omega)]
  generalize hD:swD d a p=D at *
  obtain⟨i,f1,f2,f3,f4,f5⟩:=VG (N:=N) (a:=a) (j:=b) (l0:=d.length) hr0 hl0 (by omega) hb N (a+1) (by omega) (by omega) (by omega)
  rw[f1]
  obtain⟨j,g1,g2,g3,g4,g5⟩:=Ot (N:=N) (a:=a) (i:=i) (l0:=d.length) hr0 hl0 (by omega) N b (by omega) (by omega) (by omega)
  rw[g1]
  have hp2:PtI c a b i j D:=⟨fun x x1 x2=>f4 x (by omega) x2,fun x x1 x2=>hr0.gt (i:=x) (j:=a) (by omega) (by omega) (by omega) (g4 x x1 x2)⟩
  obtain⟨t,rfl⟩: ∃t,j=t+1:=⟨j-1,by omega⟩
  have e1:((t+1:Nat):Int)-1=(t:Int):=by omega
  have hsw:Sw a b d D:=by rw[←hD];exact Sw.one (by omega) (by omega)
  rw[e1]
  by_cases hij:i<t+1
  · have hg:=g5 hij
    have hf:=f5 (by omega)
    rw[Nat.add_sub_cancel]at hg
    have hne:i≠t:=fun e=>by rw[e,hg]at hf;cases hf
    have e2:(i:Int)+1=((i+1:Nat):Int):=by omega
    rw[if_neg (by simp only[decide_eq_true_eq];omega)]
    simp(disch:=omega) only[e2,A8,AU,KW,Option.bind_some,Int.toNat_natCast]
    have esw2:(D.set i (at0 D t)).set t (at0 D i)=swD D i t:=rfl
    rw[esw2]
    have hsw2:=hr0.sw (i:=i) (j:=t) (by omega) (by omega)
    obtain⟨m,d',q1,q2,q3,q4,q5⟩:=TG (N:=N) (a:=a) hb hN N (i+1) t (swD D i t) (by omega) (by omega) (by omega) (by omega) (by omega) (by rw[EY];exact hl0) hsw2 ⟨fun x x1 x2=>by
        rw[H5 (by omega) (by omega),H5 (by omega) (by omega),if_neg (by omega: ¬a=t),if_neg (by omega: ¬a=i)]
        by_cases e1:x=t
        · omega
        · rw[if_neg e1]
          by_cases e2:x=i
          · rw[if_pos e2];exact hg
          · rw[if_neg e2];exact hp2.lo x x1 (by omega),fun x x1 x2=>by
        rw[H5 (by omega) (by omega),H5 (by omega) (by omega),if_neg (by omega: ¬a=t),if_neg (by omega: ¬a=i)]
        by_cases e1:x=t
        · rw[if_pos e1];exact hr0.gt (i:=i) (j:=a) (by omega) (by omega) (by omega) hf
        · rw[if_neg e1]
          by_cases e2:x=i
          · omega
          · rw[if_neg e2];exact hp2.hi x (by omega) x2⟩
    rw[q1]
    have hl2:d'.length=d.length:=by rw[q4.len,EY];exact hl0
    have hr2:=q4.row (by rw[EY];omega) hsw2
    simp(disch:=omega) only[AU,KW,Option.bind_some,Int.toNat_natCast]
    have esw3:(d'.set m (at0 d' a)).set a (at0 d' m)=swD d' m a:=rfl
    rw[esw3]
    have hfin:=WI hr2 q2 q3 (by omega) q5
    exact Ok.ret ⟨m,rfl,q2,q3,hsw.trans ((Sw.one (by omega) (by omega)).trans ((q4.mono (by omega) (Nat.le_refl _)).trans (Sw.one (by omega) (by omega)))),hfin.1,hfin.2⟩
  · rw[if_pos (by simp only[decide_eq_true_eq];omega)]
    simp(disch:=omega) only[AU,KW,Option.bind_some,Int.toNat_natCast]
    have esw3:(D.set t (at0 D a)).set a (at0 D t)=swD D t a:=rfl
    rw[esw3]
    have hfin:=WI (m:=t) hr0 (by omega) (by omega) (by omega) ⟨fun x x1 x2=>hp2.lo x x1 (by omega),hp2.hi⟩
    exact Ok.ret ⟨t,rfl,by omega,by omega,hsw.trans (Sw.one (by omega) (by omega)),hfin.1,hfin.2⟩
end
end Go.VM
namespace Go.VM
def Bel (c:ApiValue) (a b:Nat) (d:List Int):Prop:=a=0∨ ∀x,a≤x→x<b→ltI c (at0 d (a-1)) (at0 d x)=true
section
variable{N:Nat}{c:ApiValue}{d d':List Int}{a b i j l0:Nat}
theorem Sw.bel (h:Sw a b d d') (hb:b≤d.length) (k:Bel c a b d):Bel c a b d':=by
  rcases k with k|k
  · exact .inl k
  · by_cases h0:a=0
    · exact .inl h0
    · refine .inr fun x x1 x2=>?_
      rw[h.out hb (k:=a-1) (.inl (by omega))]
      exact h.all hb (p:=fun v=>ltI c (at0 d (a-1)) v=true) k x x1 x2
theorem Tk (hb:b≤l0) (hib:i<b): ∀(s k:Nat) (d:List Int),a≤s→s≤i→d.length=l0→s<k→Row c d→Bel c a b d→InsI c a i s d→
    ∃d',(∀k26:List Int→Option (Bool×List Int),AV N l0 c k26 k (s:Int) d=k26 d')∧Sw a (i+1) d d'∧Asc' c a (i+1) d'
  |s,0,d,_,_,_,hk,_,_,_=>by omega
  | s, k + 1, d,h1,h2,hl,hk,hr,hB,hI=>by
    have hbig:=hr.big
    have hc:=cmp_eq (N:=N) hr
    by_cases hs0:s=0
    · subst hs0
      refine⟨d,fun k26=>?_,.refl d,hI.done hr (by omega) h1 h2 (.inl (by omega))⟩
      rw[AV,if_neg (by simp)]
    · obtain ⟨t,rfl⟩: ∃t,s=t+1:=⟨s-1,by omega⟩
      have e1:((t+1:Nat):Int)-1=(t:Int):=by omega
      have step: ∀k26:List Int→Option (Bool×List Int),AV N l0 c k26 (k+1) ((t+1:Nat):Int) d=if ltI c (at0 d (t+1)) (at0 d t)=true then AV N l0 c k26 k (t:Int) (swD d (t+1) t)else k26 d:=fun k26=>by
        rw[AV,if_pos (by simp only[decide_eq_true_eq];omega)]
        simp(disch:=omega) only[e1,swD,A8,AU,KW,Option.bind_some,hc,IE,Int.toNat_natCast]
      cases hlt:ltI c (at0 d (t+1)) (at0 d t)
      · refine⟨d,fun k26=>by rw[step,hlt];rfl,.refl d,hI.done hr (by omega) h1 h2 ?_⟩
        by_cases e:t+1=a
        · exact .inl e
        · exact .inr ⟨t,rfl,by omega,hlt⟩
      · have hat:a≤t:=by
          rcases Nat.lt_or_ge t a with h|h
          · have ea:t+1=a:=by omega
            rcases hB with h0|h0
            · omega
            · have:=h0 a (Nat.le_refl _) (by omega)
              rw[←ea,Nat.add_sub_cancel]at this
              rw[AKf this]at hlt;cases hlt
          · exact h
        obtain⟨d',f1,f2,f3⟩:=Tk hb hib t k (swD d (t+1) t) hat (by omega) (by rw[EY];exact hl) (by omega) (hr.sw (by omega) (by omega)) ((Sw.one (a:=a) (b:=b) (by omega) (by omega)).bel (by omega) hB) (hI.step (by omega) (by omega) (by omega) hlt)
        exact⟨d',fun k26=>by rw[step,hlt,if_pos rfl,f1],(Sw.one (by omega) (by omega)).trans f2,f3⟩
theorem Rm (hb:b≤l0){j10:Int}: ∀(m s:Nat) (d:List Int),i<s→s+m=b→d.length=l0→Row c d→
    ∃d',(∀k7:Int×List Int→Option (Bool×List Int),AP N l0 c k7 j10 m (s:Int) d=k7 (j10,d'))∧Sw i b d d'
  |0,s,d,_,_,_,_=>⟨d,fun k7=>by rw[AP],.refl d⟩
  | m+1,s,d,h1,h2,hl,hr=>by
    have hbig:=hr.big
    have hc:=cmp_eq (N:=N) hr
    obtain⟨t,rfl⟩: ∃t,s=t+1:=⟨s-1,by omega⟩
    have e1:((t+1:Nat):Int)-1=(t:Int):=by omega
    have e2:((t+1:Nat):Int)+1=((t+1+1:Nat):Int):=by omega
    have step: ∀k7:Int×List Int→Option (Bool×List Int),AP N l0 c k7 j10 (m+1) ((t+1:Nat):Int) d=if ltI c (at0 d (t+1)) (at0 d t)=true then AP N l0 c k7 j10 m ((t+1+1:Nat):Int) (swD d (t+1) t)else k7 (j10,d):=fun k7=>by
      rw[AP]
      simp(disch:=omega) only[e1,e2,swD,A8,AU,KW,Option.bind_some,hc,IE,Int.toNat_natCast]
    cases hlt:ltI c (at0 d (t+1)) (at0 d t)
    · exact⟨d,fun k7=>by rw[step,hlt];rfl,.refl d⟩
    · obtain⟨d',f1,f2⟩:=Rm hb (j10:=j10) m (t+1+1) (swD d (t+1) t) (by omega) (by omega) (by rw[EY];exact hl) (hr.sw (by omega) (by omega))
      exact⟨d',fun k7=>by rw[step,hlt,if_pos rfl,f1],(Sw.one (by omega) (by omega)).trans f2⟩
theorem Asc'.more (hr:Row c d) (hi:i<d.length){t:Nat} (e:i=t+1) (ht:a≤t) (h:Asc' c a i d) (hl:ltI c (at0 d i) (at0 d t)=false):Asc' c a (i+1) d:=by
  intro p q h1 h2 h3
  by_cases e2:q=i
  · subst e2
    have hg:=hr.gt (i:=q) (j:=t) (by omega) (by omega) (by omega) hl
    by_cases e3:p=t
    · rw[e3];exact hg
    · exact Ol (h p t h1 (by omega) (by omega)) hg
  · exact h p q h1 h2 (by omega)
theorem Sy (hb:b≤l0) (hl:d.length=l0) (hr:Row c d): ∀(k i:Nat),b<k+i→a<i→i≤b→Asc' c a i d→
    ∃i':Nat,(∀k11:Int→Option (Bool×List Int),AX N l0 (b:Int) c d k11 k (i:Int)=k11 (i':Int))∧i≤i'∧i'≤b∧Asc' c a i' d∧(i'<b→ltI c (at0 d i') (at0 d (i'-1))=true)
  |0,i,h,_,_,_=>by omega
  | k+1,i,h1,h2,h3,hA=>by
    have hbig:=hr.big
    have hc:=cmp_eq (N:=N) hr
    obtain⟨t,rfl⟩: ∃t,i=t+1:=⟨i-1,by omega⟩
    have e1:((t+1:Nat):Int)-1=(t:Int):=by omega
    have e2:((t+1:Nat):Int)+1=((t+1+1:Nat):Int):=by omega
    by_cases hib:t+1<b
    · have step: ∀k11:Int→Option (Bool×List Int),AX N l0 (b:Int) c d k11 (k+1) ((t+1:Nat):Int)=if(!ltI c (at0 d (t+1)) (at0 d t))=true then AX N l0 (b:Int) c d k11 k ((t+1+1:Nat):Int)else k11 ((t+1:Nat):Int):=fun k11=>by
        rw[AX]
        simp only[Ab]
        rw[if_pos (by simp only[decide_eq_true_eq];omega)]
        simp(disch:=omega) only[e1,e2,A8,AU,KW,Option.bind_some,hc,IE,Int.toNat_natCast]
      cases hlt:ltI c (at0 d (t+1)) (at0 d t)
      · obtain⟨i',f1,f2,f3,f4,f5⟩:=Sy hb hl hr k (t+1+1) (by omega) (by omega) (by omega) (hA.more hr (by omega) rfl (by omega) hlt)
        exact⟨i',fun k11=>by rw[step,hlt,if_pos (by decide),f1],by omega,f3,f4,f5⟩
      · exact⟨t+1,fun k11=>by rw[step,hlt];rfl,Nat.le_refl _,h3,hA,fun _=>by rw[Nat.add_sub_cancel];exact hlt⟩
    · refine⟨t+1,fun k11=>?_,Nat.le_refl _,h3,hA,fun h=>by omega⟩
      rw[AX]
      simp only[Ab]
      rw[if_neg (by simp only[decide_eq_true_eq];omega),if_neg (by decide)]
theorem TE (hb:b≤l0) (hN:l0+2≤N): ∀(m i:Nat) (d:List Int),a<i→i≤b→d.length=l0→Row c d→Bel c a b d→Asc' c a i d→
    Ok (AO N l0 (a:Int) (b:Int) c (fun j1=>some (false,j1)) m (i:Int) d) fun r=>Sw a b d r.2∧(r.1=true→Asc' c a b r.2)
  | 0,i,d,_,_,_,_,_,_=>by
    rw[AO]
    exact Ok.ret ⟨.refl d,fun h=>by cases h⟩
  | m+1,i,d,h1,h2,hl,hr,hB,hA=>by
    have hbig:=hr.big
    rw[AO]
    simp only[Ab]
    obtain⟨i',f1,f2,f3,f4,f5⟩:=Sy (N:=N) (a:=a) hb hl hr N i (by omega) h1 h2 hA
    rw[f1]
    by_cases hib:i'=b
    · rw[if_pos (by simp[hib])]
      exact Ok.ret ⟨.refl d,fun _=>by rw[←hib];exact f4⟩
    · rw [if_neg (by simp;omega),show(b:Int)-(a:Int)=((b-a:Nat):Int) by omega,A8 (by omega)]
      by_cases h50:b-a<50
      · rw[if_pos (by simp only[decide_eq_true_eq];omega)]
        exact Ok.ret ⟨.refl d,fun h=>by cases h⟩
      · obtain⟨t,rfl⟩: ∃t,i'=t+1:=⟨i'-1,by omega⟩
        have e1:((t+1:Nat):Int)-1=(t:Int):=by omega
        have e2:((t+1:Nat):Int)+1=((t+1+1:Nat):Int):=by omega
        have e3:((t+1:Nat):Int)-(a:Int)=((t+1-a:Nat):Int):=by omega
        have e4:(b:Int)-((t+1:Nat):Int)=((b-(t+1):Nat):Int):=by omega
        have e5:((b:Int)-((t+1+1:Nat):Int)).toNat=b-(t+1+1):=by omega
        have hlt:=f5 (by omega)
        rw[Nat.add_sub_cancel]at hlt
        rw[if_neg (by simp only[decide_eq_true_eq];omega)]
        simp(disch:=omega) only[e1,e2,e3,e4,e5,A8,AU,KW,Option.bind_some,Int.toNat_natCast]
        have esw:(d.set (t+1) (at0 d t)).set t (at0 d (t+1))=swD d (t+1) t:=rfl
        rw[esw]
        have hr2:=hr.sw (i:=t+1) (j:=t) (by omega) (by omega)
        have hs2:Sw a b d (swD d (t+1) t):=Sw.one (by omega) (by omega)
        have hB2:=hs2.bel (by omega) hB
        have right: ∀d2:List Int,d2.length=l0→Row c d2→Sw a b d d2→Asc' c a (t+1) d2→Ok (if decide (((b-(t+1):Nat):Int)≥2)=true then AP N l0 c (fun j6=>AO N l0 (a:Int) (b:Int) c (fun j1=>some (false,j1)) m j6.1 j6.2) ((t+1:Nat):Int) (b-(t+1+1)) ((t+1+1:Nat):Int) d2 else AO N l0 (a:Int) (b:Int) c (fun j1=>some (false,j1)) m ((t+1:Nat):Int) d2) fun r=>Sw a b d r.2∧(r.1=true→Asc' c a b r.2):=by
          intro d2 k1 k2 k3 k4
          have go: ∀d3:List Int,Sw (t+1) b d2 d3→Ok (AO N l0 (a:Int) (b:Int) c (fun j1=>some (false,j1)) m ((t+1:Nat):Int) d3) fun r=>Sw a b d r.2∧(r.1=true→Asc' c a b r.2):=fun d3 hd3=>by
            have hall:=k3.trans (hd3.mono (by omega) (Nat.le_refl _))
            refine(TE hb hN m (t+1) d3 (by omega) (by omega) (by rw[hd3.len];exact k1) (hd3.row (by omega) k2) (hall.bel (by omega) hB) (fun p q p1 p2 p3=>?_)).mono fun r h=>⟨hall.trans h.1,h.2⟩
            rw[hd3.out (by omega) (.inl (by omega)),hd3.out (by omega) (.inl (by omega))]
            exact k4 p q p1 p2 p3
          split
          · obtain⟨d3,g1,g2⟩:=Rm (N:=N) (c:=c) (i:=t+1) hb (j10:=((t+1:Nat):Int)) (b-(t+1+1)) (t+1+1) d2 (by omega) (by rename_i h;simp only[decide_eq_true_eq]at h;omega) k1 k2
            rw[g1]
            exact go d3 g2
          · exact go d2 (.refl d2)
        split
        · obtain⟨d2,g1,g2,g3⟩:=Tk (N:=N) (a:=a) (i:=t) hb (by omega) t N (swD d (t+1) t) (by omega) (Nat.le_refl _) (by rw[EY];exact hl) (by omega) hr2 hB2 (fun p q p1 p2 p3 p4=>by
            rw[H5 (by omega) (by omega),H5 (by omega) (by omega),if_neg (by omega),if_neg (by omega),if_neg (by omega),if_neg (by omega)]
            exact f4 p q p1 p2 (by omega))
          rw[g1]
          exact right d2 (by rw[g2.len,EY];exact hl) (g2.row (by rw[EY];omega) hr2) (hs2.trans (g2.mono (Nat.le_refl _) (by omega))) g3
        · rename_i h
          simp only[decide_eq_true_eq]at h
          refine right (swD d (t+1) t) (by rw[EY];exact hl) hr2 hs2 (fun p q p1 p2 p3=>?_)
          omega
theorem AG8 (hr:Row c d) (hab:a<b) (hb:b≤d.length) (hN:d.length+2≤N) (hB:Bel c a b d):Ok (BA N d.length d (a:Int) (b:Int) c) fun r=>Sw a b d r.2∧(r.1=true→Asc' c a b r.2):=by
  have hbig:=hr.big
  unfold BA
  simp only[Ab]
  rw[AU (by omega),show(a:Int)+1=((a+1:Nat):Int) by omega,A8 (by omega)]
  exact TE hb hN _ (a+1) d (by omega) (by omega) rfl hr hB (fun p q p1 p2 p3=>by omega)
theorem OB (hr:Row c d) (hi:i<d.length) (hj:j<d.length) (s:Int):Ok (BB N d.length d (i:Int) (j:Int) s c) fun r=>r.2.2.1=d∧((r.1=(i:Int)∧r.2.1=(j:Int))∨(r.1=(j:Int)∧r.2.1=(i:Int))):=by
  have hc:=cmp_eq (N:=N) hr
  unfold BB
  simp(disch:=omega) only[AU,KW,Option.bind_some,hc,IE]
  split
  · exact Ok.ret ⟨rfl,.inr ⟨rfl,rfl⟩⟩
  · exact Ok.ret ⟨rfl,.inl ⟨rfl,rfl⟩⟩
theorem Tg{k:Nat} (hr:Row c d) (hi:i<d.length) (hj:j<d.length) (hk:k<d.length) (s:Int):Ok (BC N d.length d (i:Int) (j:Int) (k:Int) s c) fun r=>r.2.1=d∧ ∃m:Nat,r.1=(m:Int)∧(m=i∨m=j∨m=k):=by
  unfold BC
  refine(OB hr hi hj s).bind fun r1 h1=>?_
  obtain⟨p,q,hp,hq,hpq⟩: ∃p q:Nat,r1.1=(p:Int)∧r1.2.1=(q:Int)∧((p=i∧q=j)∨(p=j∧q=i)):=by
    rcases h1.2 with⟨x,y⟩|⟨x,y⟩
    · exact⟨i,j,x,y,.inl ⟨rfl,rfl⟩⟩
    · exact⟨j,i,x,y,.inr ⟨rfl,rfl⟩⟩
  rw[h1.1,hp,hq]
  refine(OB (i:=q) (j:=k) hr (by omega) hk _).bind fun r2 h2=>?_
  obtain⟨u,hu,hu2⟩: ∃u:Nat,r2.1=(u:Int)∧(u=q∨u=k):=by
    rcases h2.2 with⟨x,_⟩|⟨x,_⟩
    · exact⟨q,x,.inl rfl⟩
    · exact⟨k,x,.inr rfl⟩
  rw[h2.1,hu]
  refine(OB (i:=p) (j:=u) hr (by omega) (by omega) _).bind fun r3 h3=>?_
  refine Ok.ret ⟨h3.1,?_⟩
  rcases h3.2 with⟨_,y⟩|⟨_,y⟩
  · exact⟨u,y,by omega⟩
  · exact⟨p,y,by omega⟩
theorem AAy (hr:Row c d) (hi:i+1<d.length) (h0:0<i) (s:Int):Ok (Av N d.length d (i:Int) s c) fun r=>r.2.1=d∧ ∃m:Nat,r.1=(m:Int)∧i≤m+1∧m≤i+1:=by
  have hbig:=hr.big
  unfold Av
  rw[show(i:Int)-1=((i-1:Nat):Int) by omega,show(i:Int)+1=((i+1:Nat):Int) by omega,A8 (by omega),A8 (by omega)]
  refine(Tg (i:=i-1) (j:=i) (k:=i+1) hr (by omega) (by omega) hi s).bind fun r h=>?_
  obtain⟨h1,m,h2,h3⟩:=h
  exact Ok.ret ⟨h1,m,h2,by omega,by omega⟩
theorem AGY (hr:Row c d) (hab:a+12<b) (hb:b≤d.length):Ok (BX N d.length d (a:Int) (b:Int) c) fun r=>r.2.2=d∧ ∃m:Nat,r.1=(m:Int)∧a≤m∧m<b:=by
  have hbig:=hr.big
  unfold BX
  simp only[Ab]
  obtain⟨l,rfl⟩: ∃l,b=a+l:=⟨b-a,by omega⟩
  have e1:((a+l:Nat):Int)-(a:Int)=(l:Int):=by omega
  have e2:(l:Int).tdiv 4=((l / 4:Nat):Int):=rfl
  have f1:(a:Int)+((l / 4:Nat):Int) * 1=((a+l / 4:Nat):Int):=by omega
  have f2:(a:Int)+((l / 4:Nat):Int) * 2=((a+2 * (l / 4):Nat):Int):=by omega
  have f3:(a:Int)+((l / 4:Nat):Int) * 3=((a+3 * (l / 4):Nat):Int):=by omega
  simp(disch:=omega) only[e1,e2,f1,f2,f3,A8]
  have fin: ∀(x y z:Nat) (s:Int),a≤x→x<a+l→a≤y→y<a+l→a≤z→z<a+l→Ok (Option.bind (BC N d.length d (x:Int) (y:Int) (z:Int) s c) fun y15=>if(y15.2.2==0)=true then some (y15.1,(1:Int),y15.2.1)else if(y15.2.2==12)=true then some (y15.1,2,y15.2.1)else some (y15.1,0,y15.2.1)) fun r=>r.2.2=d∧ ∃m:Nat,r.1=(m:Int)∧a≤m∧m<a+l:=by
    intro x y z s h1 h2 h3 h4 h5 h6
    refine(Tg hr (by omega) (by omega) (by omega) s).bind fun r h=>?_
    obtain⟨k1,m,k2,k3⟩:=h
    split
    · exact Ok.ret ⟨k1,m,k2,by omega,by omega⟩
    · split
      · exact Ok.ret ⟨k1,m,k2,by omega,by omega⟩
      · exact Ok.ret ⟨k1,m,k2,by omega,by omega⟩
  rw[if_pos (by simp only[decide_eq_true_eq];omega)]
  by_cases h50:50≤l
  · rw[if_pos (by simp only[decide_eq_true_eq];omega)]
    refine(AAy (i:=a+l / 4) hr (by omega) (by omega) 0).bind fun r1 h1=>?_
    obtain⟨k1,m1,k2,k3,k4⟩:=h1
    rw[k1]
    refine(AAy (i:=a+2 * (l / 4)) hr (by omega) (by omega) _).bind fun r2 h2=>?_
    obtain⟨q1,m2,q2,q3,q4⟩:=h2
    rw[q1]
    refine(AAy (i:=a+3 * (l / 4)) hr (by omega) (by omega) _).bind fun r3 h3=>?_
    obtain⟨w1,m3,w2,w3,w4⟩:=h3
    rw[w1,k2,q2,w2]
    exact fin m1 m2 m3 _ (by omega) (by omega) (by omega) (by omega) (by omega) (by omega)
  · rw[if_neg (by simp only[decide_eq_true_eq];omega)]
    exact fin _ _ _ 0 (by omega) (by omega) (by omega) (by omega) (by omega) (by omega)
theorem AEZ:((List.range 2001).all fun n=>decide (n<8)||match Da N (n:Int)with|some p=>decide (1≤p∧p≤2 * (n:Int))|none=>false)=true:=by kernel_rfl
theorem AHM{n:Nat} (h8:8≤n) (hn:n≤2000): ∃p:Int,Da N (n:Int)=some p∧1≤p∧p≤2 * n:=by
  have:=List.all_eq_true.1 (AEZ (N:=N)) n (List.mem_range.2 (by omega))
  rw[decide_eq_false (by omega),Bool.false_or]at this
  cases h:Da N (n:Int)with
  |none=>rw[h]at this;cases this
  |some p=>rw[h]at this;exact⟨p,rfl,of_decide_eq_true this⟩
theorem AGq (x:Int){m:Nat} (hm:m<2^63): ∃o:Nat,DT .u64 x (m:Int)=(o:Int)∧o≤m:=by
  unfold DT
  have hb:(IntKind.u64).bits=64:=rfl
  rw[hb]
  have h1:(BitVec.ofInt 64 x&&&BitVec.ofInt 64 (m:Int)).toNat≤m:=by
    rw[BitVec.toNat_and]
    refine Nat.le_trans Nat.and_le_right ?_
    rw[BitVec.toNat_ofInt]
    omega
  refine⟨(BitVec.ofInt 64 x&&&BitVec.ofInt 64 (m:Int)).toNat,?_,h1⟩
  generalize (BitVec.ofInt 64 x&&&BitVec.ofInt 64 (m:Int)).toNat=v at h1
  simp[IntKind.wrap,IntKind.bits,IntKind.signed]
  omega
theorem QJ{p:Int} (hp:1≤p∧p≤2 * ((b-a:Nat):Int)) (hab:a+12<b) (hb:b≤l0) (hbig:l0≤2000): ∀(k i:Nat) (x:Int) (d:List Int),a≤i→i≤a+((b-a) / 4) * 2+2→a+((b-a) / 4) * 2+2<i+k→d.length=l0→
    Ok (Ak N l0 (a:Int) (b:Int) p k (i:Int) x d) fun d'=>Sw a b d d'
  |0,i,x,d,_,h,h2,_=>by omega
  | k+1,i,x,d,h1,h2,h3,hl=>by
    obtain⟨l,hbl⟩: ∃l,l=b-a:=⟨b-a,rfl⟩
    have hp':=hp
    rw[←hbl]at hp h2 h3
    have e1:(b:Int)-(a:Int)=(l:Int):=by omega
    have e2:(l:Int).tdiv 4=((l / 4:Nat):Int):=rfl
    have e3:((l / 4:Nat):Int) * 2=((l / 4 * 2:Nat):Int):=by omega
    have e4:(a:Int)+((l / 4 * 2:Nat):Int)=((a+l / 4 * 2:Nat):Int):=by omega
    have e5:(i:Int)+1=((i+1:Nat):Int):=by omega
    rw[Ak]
    simp only[Ab]
    simp(disch:=omega) only[e1,e2,e3,e4,e5,A8]
    by_cases hi:i≤a+l / 4 * 2+1
    · rw[if_pos (by simp only[decide_eq_true_eq];omega)]
      unfold FZ
      rw[Option.bind_some]
      dsimp only
      have ewr:wr .u64 (p-1)=((p-1).toNat:Int):=by
        simp[wr,IntKind.wrap,IntKind.bits,IntKind.signed];omega
      rw[ewr]
      generalize hX:JI .u64 _ _=X
      obtain⟨o,ho,hole⟩:=AGq X (m:=(p-1).toNat) (by omega)
      rw[ho]
      have swp: ∀q:Nat,q<l→ ∀y:Int,Ok (grd (0≤wr .i64 ((a:Int)+(q:Int))∧wr .i64 ((a:Int)+(q:Int))<(l0:Int)) (Option.bind (idx d (wr .i64 ((a:Int)+(q:Int)))) fun x10=>grd (0≤(i:Int)∧(i:Int)<(l0:Int)) (Option.bind (idx d (i:Int)) fun x11=>grd ((i:Int).toNat+1≤d.length) (grd ((wr .i64 ((a:Int)+(q:Int))).toNat+1≤d.length) (Ak N l0 (a:Int) (b:Int) p k ((i+1:Nat):Int) y ((d.set (i:Int).toNat x10).set (wr .i64 ((a:Int)+(q:Int))).toNat x11)))))) fun d'=>Sw a b d d':=by
        intro q hq y
        have e6:(a:Int)+(q:Int)=((a+q:Nat):Int):=by omega
        simp(disch:=omega) only[e6,A8,AU,KW,Option.bind_some,Int.toNat_natCast]
        have:=QJ hp' hab hb hbig k (i+1) y (swD d i (a+q)) (by omega) (by omega) (by omega) (by rw[EY];exact hl)
        exact this.mono fun d' h'=>(Sw.one (by omega) (by omega)).trans h'
      try simp(disch:=omega) only[A8]
      by_cases hol:l≤o
      · have e7:(o:Int)-(l:Int)=((o-l:Nat):Int):=by omega
        rw[if_pos (by simp only[decide_eq_true_eq];omega),e7]
        try simp(disch:=omega) only[A8]
        have:=swp (o-l) (by omega) X
        simpa(disch:=omega) only[A8]using this
      · rw[if_neg (by simp only[decide_eq_true_eq];omega)]
        have:=swp o (by omega) X
        simpa(disch:=omega) only[A8]using this
    · rw[if_neg (by simp only[decide_eq_true_eq];omega)]
      exact Ok.ret (.refl d)
theorem AEk (hr:Row c d) (hab:a+12<b) (hb:b≤d.length) (hN:2 * d.length+10≤N):Ok (BR N d.length d (a:Int) (b:Int) c) fun d'=>Sw a b d d':=by
  have hbig:=hr.big
  unfold BR
  have e1:(b:Int)-(a:Int)=((b-a:Nat):Int):=by omega
  have e2:((b-a:Nat):Int).tdiv 4=(((b-a) / 4:Nat):Int):=rfl
  have e3:(((b-a) / 4:Nat):Int) * 2=(((b-a) / 4 * 2:Nat):Int):=by omega
  have e4:(a:Int)+(((b-a) / 4 * 2:Nat):Int)=((a+(b-a) / 4 * 2:Nat):Int):=by omega
  have e5:((a+(b-a) / 4 * 2:Nat):Int)-1=((a+(b-a) / 4 * 2-1:Nat):Int):=by omega
  simp(disch:=omega) only[e1,e2,e3,e4,e5,A8]
  rw[if_pos (by simp only[decide_eq_true_eq];omega)]
  obtain⟨p,hp,hp2⟩:=AHM (N:=N) (n:=b-a) (by omega) (by omega)
  rw[hp,Option.bind_some]
  exact QJ hp2 hab hb hbig N _ _ d (by omega) (by omega) (by omega) rfl
end
end Go.VM
namespace Go.VM
section
variable{N:Nat}{c:ApiValue}{d d':List Int}{a b i j l0:Nat}
theorem AHc (h:Row c d) (hab:a≤b) (hb:b≤d.length) (hN:b<N):Ok (Aw N d.length d a b c) fun d'=>Sw a b d d'∧Asc' c a b d':=by
  by_cases e:a<b
  · exact AKU h e hb hN
  · have hbig:=h.big
    unfold Aw
    rw[show(a:Int)+1=((a+1:Nat):Int) by simp,Hd (by omega),AU (by omega),show(((b:Nat):Int)-((a+1:Nat):Int)).toNat=0 by omega,AQ]
    exact Ok.ret ⟨.refl d,fun p q h1 h2 h3=>by omega⟩
theorem Bel.sub{a' b':Nat} (h:Bel c a b d) (ha:a'=a) (hb:b'≤b):Bel c a' b' d:=by
  subst ha
  rcases h with h|h
  · exact .inl h
  · exact .inr fun x x1 x2=>h x x1 (by omega)
theorem Wl{m:Nat} (h1:Asc' c a m d) (h2:Asc' c (m+1) b d) (lo: ∀x,a≤x→x<m→ltI c (at0 d x) (at0 d m)=true) (hi: ∀x,m<x→x<b→ltI c (at0 d m) (at0 d x)=true):Asc' c a b d:=by
  intro p q k1 k2 k3
  by_cases e1:q<m
  · exact h1 p q k1 k2 e1
  · by_cases e2:q=m
    · rw[e2];exact lo p k1 (by omega)
    · by_cases e3:p<m
      · exact Ol (lo p k1 e3) (hi q (by omega) k3)
      · by_cases e4:p=m
        · rw[e4];exact hi q (by omega) k3
        · exact h2 p q (by omega) k2 k3
theorem RO (hN:2 * l0+10≤N) (D':Nat) (rec:Nat→List Int→Int→Int→Int→ApiValue→Option (List Int))
    (ih: ∀(a b:Nat) (d:List Int) (lim:Int),a≤b→b≤l0→b-a<D'→d.length=l0→Row c d→Bel c a b d→Ok (rec l0 d (a:Int) (b:Int) lim c) fun d'=>Sw a b d d'∧Asc' c a b d'):
    ∀(k a b:Nat) (lim:Int) (w1 w2:Bool) (d:List Int),a≤b→b≤l0→b-a<k→b-a≤D'→d.length=l0→Row c d→Bel c a b d→
    Ok (Al N l0 c rec k (a:Int) (b:Int) lim w1 w2 d) fun d'=>Sw a b d d'∧Asc' c a b d'
  |0,a,b,lim,w1,w2,d,_,_,h,_,_,_,_=>by omega
  | k + 1, a, b,lim,w1,w2,d,hab,hb,hk,hD,hl,hr,hB=>by
    have hbig:=hr.big
    have eba:(b:Int)-(a:Int)=((b-a:Nat):Int):=by omega
    rw[Al,eba,A8 (n:=((b-a:Nat):Int)) (by omega)]
    by_cases h12:b-a≤12
    · rw[if_pos (by simp only[decide_eq_true_eq];omega)]
      have:=AHc (N:=N) hr hab (by omega) (by omega)
      rw[hl]at this
      exact this.bind fun y h=>Ok.ret h
    rw[if_neg (by simp only[decide_eq_true_eq];omega)]
    by_cases hlim:lim=0
    · rw[if_pos (by simp[hlim])]
      have:=AIJ (N:=N) hr (by omega:a<b) (by omega) (by omega)
      rw[hl]at this
      exact this.bind fun y h=>Ok.ret h
    rw[if_neg (by simp[hlim])]
    have got: ∀d1,Sw a b d d1→d1.length=l0∧Row c d1∧Bel c a b d1:=fun d1 h=>⟨by rw[h.len];exact hl,h.row (by omega) hr,h.bel (by omega) hB⟩
    refine Ok.meet (fun j6=>Sw a b d j6.2) ?_ ?_
    · rintro ⟨lim',d1⟩ hs1
      obtain⟨hl1,hr1,hB1⟩:=got d1 hs1
      dsimp only
      have hpv:=AGY (N:=N) hr1 (by omega:a+12<b) (by omega)
      rw[hl1]at hpv
      refine hpv.bind fun y12 hy=>?_
      obtain⟨hy1,p,hp1,hp2,hp3⟩:=hy
      refine Ok.meet (fun j14=>(∃p:Nat,j14.1=(p:Int)∧a≤p∧p<b)∧Sw a b d j14.2.2) ?_ ?_
      · rintro ⟨p0,hint,d2⟩ ⟨⟨q,hq1,hq2,hq3⟩,hs2⟩
        dsimp only at hq1 hs2⊢
        subst hq1
        obtain⟨hl2,hr2,hB2⟩:=got d2 hs2
        refine Ok.meet (fun j20=>Sw a b d j20) ?_ ?_
        · intro d3 hs3
          obtain⟨hl3,hr3,hB3⟩:=got d3 hs3
          refine Ok.meet (fun j30=>j30=false) ?_ ?_
          · rintro _ rfl
            rw[if_neg (by decide)]
            have hpt:=AHL (N:=N) hr3 hq2 hq3 (by omega) (by omega)
            rw[hl3]at hpt
            refine hpt.bind fun y40 hy40=>?_
            obtain⟨m,hm,hm1,hm2,hs4,hlo,hhi⟩:=hy40
            have hs4':=hs3.trans hs4
            obtain⟨hl4,hr4,hB4⟩:=got _ hs4'
            rw[hm,show(m:Int)-(a:Int)=((m-a:Nat):Int) by omega,show(b:Int)-(m:Int)=((b-m:Nat):Int) by omega,show(m:Int)+1=((m+1:Nat):Int) by omega]
            rw[A8 (n:=((m-a:Nat):Int)) (by omega),A8 (n:=((b-m:Nat):Int)) (by omega),A8 (n:=((m+1:Nat):Int)) (by omega)]
            generalize y40.2.2=d4 at *
            have hBr:Bel c (m+1) b d4:=.inr fun x x1 x2=>by rw[Nat.add_sub_cancel];exact hhi x (by omega) x2
            split
            · refine(ih a m d4 lim' hm1 (by omega) (by omega) hl4 hr4 (hB4.sub rfl (by omega))).bind fun d5 h5=>?_
              have hr5:=h5.1.row (by omega) hr4
              have hl5:d5.length=l0:=by rw[h5.1.len];exact hl4
              have o5: ∀x,m≤x→at0 d5 x=at0 d4 x:=fun x hx=>h5.1.out (by omega) (.inr hx)
              have hB5:Bel c (m+1) b d5:=.inr fun x x1 x2=>by rw[Nat.add_sub_cancel,o5 m (Nat.le_refl _),o5 x (by omega)];exact hhi x (by omega) x2
              refine(RO hN D' rec ih k (m+1) b lim' _ _ d5 (by omega) hb (by omega) (by omega) hl5 hr5 hB5).mono fun d6 h6=>⟨hs4'.trans ((h5.1.mono (Nat.le_refl _) (by omega)).trans (h6.1.mono (by omega) (Nat.le_refl _))),?_⟩
              have o6: ∀x,x<m+1→at0 d6 x=at0 d5 x:=fun x hx=>h6.1.out (by omega) (.inl hx)
              refine Wl (m:=m) (fun p q p1 p2 p3=>by rw[o6 p (by omega),o6 q (by omega)];exact h5.2 p q p1 p2 p3) h6.2 (fun x x1 x2=>?_) (fun x x1 x2=>?_)
              · rw[o6 x (by omega),o6 m (by omega),o5 m (Nat.le_refl _)]
                exact h5.1.all (by omega) (p:=fun v=>ltI c v (at0 d4 m)=true) hlo x x1 x2
              · rw[o6 m (by omega),o5 m (Nat.le_refl _)]
                refine h6.1.all (by omega) (p:=fun v=>ltI c (at0 d4 m) v=true) (fun y y1 y2=>?_) x (by omega) x2
                rw[o5 y (by omega)];exact hhi y (by omega) y2
            · refine(ih (m+1) b d4 lim' (by omega) hb (by omega) hl4 hr4 hBr).bind fun d5 h5=>?_
              have hr5:=h5.1.row (by omega) hr4
              have hl5:d5.length=l0:=by rw[h5.1.len];exact hl4
              have o5: ∀x,x<m+1→at0 d5 x=at0 d4 x:=fun x hx=>h5.1.out (by omega) (.inl hx)
              have hB5:Bel c a m d5:=by
                rcases hB4 with e|e
                · exact .inl e
                · refine .inr fun x x1 x2=>?_
                  rw[o5 (a-1) (by omega),o5 x (by omega)];exact e x x1 (by omega)
              refine(RO hN D' rec ih k a m lim' _ _ d5 hm1 (by omega) (by omega) (by omega) hl5 hr5 hB5).mono fun d6 h6=>⟨hs4'.trans ((h5.1.mono (by omega) (Nat.le_refl _)).trans (h6.1.mono (Nat.le_refl _) (by omega))),?_⟩
              have o6: ∀x,m≤x→at0 d6 x=at0 d5 x:=fun x hx=>h6.1.out (by omega) (.inr hx)
              refine Wl (m:=m) h6.2 (fun p q p1 p2 p3=>by rw[o6 p (by omega),o6 q (by omega)];exact h5.2 p q p1 p2 p3) (fun x x1 x2=>?_) (fun x x1 x2=>?_)
              · rw[o6 m (Nat.le_refl _),o5 m (by omega)]
                refine h6.1.all (by omega) (p:=fun v=>ltI c v (at0 d4 m)=true) (fun y y1 y2=>?_) x x1 x2
                rw[o5 y (by omega)];exact hlo y y1 y2
              · rw[o6 m (Nat.le_refl _),o6 x (by omega),o5 m (by omega)]
                exact h5.1.all (by omega) (p:=fun v=>ltI c (at0 d4 m) v=true) (fun y y1 y2=>hhi y (by omega) y2) x (by omega) x2
          · intro k31 hk31
            by_cases ha0:0<a
            · have hc:=cmp_eq (N:=N) hr3
              have e1:(a:Int)-1=((a-1:Nat):Int):=by omega
              rw[if_pos (by simp only[decide_eq_true_eq];omega),e1]
              simp(disch:=omega) only[A8,AU,KW,Option.bind_some,hc,IE]
              refine hk31 _ ?_
              rcases hB3 with e|e
              · omega
              · rw[e q hq2 hq3];rfl
            · rw[if_neg (by simp only[decide_eq_true_eq];omega)]
              exact hk31 _ rfl
        · intro k21 hk21
          refine Ok.meet (fun _=>True) ?_ ?_
          · intro j24 _
            cases j24
            · rw[if_neg (by decide)]
              exact hk21 d2 hs2
            · rw[if_pos rfl]
              have hpi:=AG8 (N:=N) hr2 (by omega:a<b) (by omega) (by omega) hB2
              rw[hl2]at hpi
              refine hpi.bind fun y28 h28=>?_
              cases e28:y28.1
              · rw[if_neg (by decide)]
                exact hk21 _ (hs2.trans h28.1)
              · rw[if_pos rfl]
                exact Ok.ret ⟨hs2.trans h28.1,h28.2 e28⟩
          · intro k25 hk25
            split
            · split
              · exact hk25 _ trivial
              · exact hk25 _ trivial
            · exact hk25 _ trivial
      · intro k15 hk15
        split
        · have hrv:=AKG (N:=N) hr1 (by omega:a<b) (by omega) (by omega)
          rw[hl1]at hrv
          rw[hy1]
          refine hrv.bind fun d2 h2=>hk15 _ ⟨⟨b-1-(p-a),?_,by omega,by omega⟩,hs1.trans h2⟩
          rw[hp1]
          dsimp only
          rw[show(b:Int)-1=((b-1:Nat):Int) by omega,show(p:Int)-(a:Int)=((p-a:Nat):Int) by omega,A8 (n:=((b-1:Nat):Int)) (by omega),A8 (n:=((p-a:Nat):Int)) (by omega),show((b-1:Nat):Int)-((p-a:Nat):Int)=((b-1-(p-a):Nat):Int) by omega,A8 (by omega)]
        · refine hk15 _ ⟨⟨p,hp1,hp2,hp3⟩,?_⟩
          dsimp only
          rw[hy1];exact hs1
    · intro k7 hk7
      split
      · exact hk7 (lim,d) (.refl d)
      · have hbr:=AEk (N:=N) hr (by omega:a+12<b) (by omega) (by omega)
        rw[hl]at hbr
        exact hbr.bind fun y10 h10=>hk7 _ h10
theorem AGg (hN:2 * l0+10≤N): ∀(D a b:Nat) (d:List Int) (lim:Int),a≤b→b≤l0→b-a<D→d.length=l0→Row c d→Bel c a b d→
    Ok (Aj N D l0 d (a:Int) (b:Int) lim c) fun d'=>Sw a b d d'∧Asc' c a b d'
  |0,a,b,d,lim,_,_,h,_,_,_=>by omega
  | D+1,a,b,d,lim,hab,hb,hD,hl,hr,hB=>by
    rw[Aj]
    exact RO hN D _ (fun a b d lim h1 h2 h3 h4 h5 h6=>AGg hN D a b d lim h1 h2 h3 h4 h5 h6) N a b lim true true d hab hb (by omega) (by omega) hl hr hB
theorem AIq:((List.range 2001).all fun n=>(H8 N (wr .u64 (n:Int))).isSome)=true:=by kernel_rfl
theorem AGC (hr:Row c d) (hN:2 * d.length+10≤N):Ok (Bi N d.length d c) fun d'=>Sw 0 d.length d d'∧Asc' c 0 d.length d':=by
  have hbig:=hr.big
  unfold Bi
  have:=List.all_eq_true.1 (AIq (N:=N)) d.length (List.mem_range.2 (by omega))
  obtain⟨y,hy⟩:=Option.isSome_iff_exists.1 this
  rw[hy,Option.bind_some]
  refine(AGg (N:=N) hN N 0 d.length d y (by omega) (Nat.le_refl _) (by omega) rfl hr (.inl rfl)).bind fun d' h=>Ok.ret h
end
def Ka (n:Nat):List Int:=(List.range n).map fun i:Nat=>(i:Int)
theorem F5 (n:Nat):(Ka n).length=n:=by simp[Ka]
theorem AAl{n i:Nat} (h:i<n):at0 (Ka n) i=(i:Int):=by
  unfold at0 Ka
  rw[List.getD_eq_getElem?_getD,List.getElem?_map,List.getElem?_range h];rfl
theorem AFQ (n:Nat):Ka (n+1)=Ka n++[(n:Int)]:=by simp[Ka,List.range_succ]
section
variable{N:Nat}{c:ApiValue}
theorem AHV (hn:c.keys.Nodup) (hb:c.keys.length≤2000):Row c (Ka c.keys.length):=by
  refine⟨by rw[F5];exact hb,fun i hi=>?_,fun i j hi hj hne=>?_⟩
  · rw[F5]at hi
    rw[AAl hi];exact⟨by omega,by omega⟩
  · rw[F5]at hi hj
    rw[AAl hi,AAl hj]
    unfold ltI kth
    rw[Int.toNat_natCast,Int.toNat_natCast]
    simp only[List.getD_eq_getElem?_getD,List.getElem?_eq_getElem hi,List.getElem?_eq_getElem hj,Option.getD_some]
    rcases AAz c.keys[i] c.keys[j]with e|e|e
    · exact .inl e
    · have hp:=List.pairwise_iff_getElem.1 hn
      rcases Nat.lt_or_gt_of_ne hne with q|q
      · exact absurd e (hp i j hi hj q)
      · exact absurd e.symm (hp j i hj hi q)
    · exact .inr e
theorem QK{k2:List Int→Option (List Int)} (hb:c.items.length≤1000000): ∀(m i:Nat),i+m=c.items.length→CR N c k2 m (i:Int) (Ka i++List.replicate m 0)=k2 (Ka c.items.length)
  | 0,i,h=>by
    rw[CR,List.replicate_zero,List.append_nil,show i=c.items.length by omega]
  | m+1,i,h=>by
    rw[CR,show(c.items.length:Int).toNat=c.items.length from Int.toNat_natCast _,Int.toNat_natCast,AU (by omega),AU (by simp[F5]),show(i:Int)+1=((i+1:Nat):Int) by omega]
    have e:(Ka i++List.replicate (m+1) (0:Int)).set i (i:Int)=Ka (i+1)++List.replicate m 0:=by
      rw[List.set_append_right _ _ (by rw[F5];exact Nat.le_refl _),F5,Nat.sub_self,List.replicate_succ,List.set_cons_zero,AFQ,List.append_assoc];rfl
    rw[e]
    exact QK hb m (i+1) (by omega)
theorem TI{K:List Int→Option (List Int)} (hb:c.items.length≤1000000):grd (RX (c.items.length:Int) 8) (grd ((-4611686018427387904:Int)≤0∧((((c.items.length:Int).toNat:Int)):Int)≤4611686018427387904) (CR N c K (((((c.items.length:Int).toNat:Int)):Int)-0).toNat 0 (List.replicate (c.items.length:Int).toNat 0)))=K (Ka c.items.length):=by
  have e:(c.items.length:Int).toNat=c.items.length:=Int.toNat_natCast _
  rw[AU (by unfold RX;omega),e,AU (by omega),show((c.items.length:Int)-0).toNat=c.items.length by omega]
  exact QK hb c.items.length 0 (by omega)
theorem TP (hk:(c.kind==7)=false) (hb:c.items.length≤1000000):Ct N c=some (Ka c.items.length):=by
  unfold Ct
  simp only[Ab]
  rw[TI hb,hk,if_neg (by decide),Int.toNat_natCast,F5,AU rfl]
theorem AGz{d:List Int} (h:Asc' c 0 d.length d):Asc (d.map (kth c)):=by
  unfold Asc
  rw[List.pairwise_map,List.pairwise_iff_getElem]
  intro i j hi hj hij
  have:=h i j (by omega) hij hj
  rw[Q7 hi,Q7 hj]at this
  unfold ltI at this
  unfold leB
  rw[this];simp
theorem AFk (hl:c.keys.length=c.items.length):(Ka c.items.length).map (kth c)=c.keys:=by
  refine List.ext_getElem (by simp[F5,hl]) fun i h1 h2=>?_
  rw[List.getElem_map]
  have hi:i<c.items.length:=by omega
  have:(Ka c.items.length)[i]'(by rw[F5];exact hi)=(i:Int):=by simp[Ka]
  rw[this,kth,Int.toNat_natCast,List.getD_eq_getElem?_getD,List.getElem?_eq_getElem h2];rfl
theorem ACt (hk:(c.kind==7)=true) (hl:c.keys.length=c.items.length) (hn:c.keys.Nodup) (hb:c.keys.length≤2000) (hN:10000≤N):Ok (Ct N c) fun l=>l.map (kth c)=Hy c.keys∧l.Perm (Ka c.items.length):=by
  have hr:=AHV hn hb
  rw[hl]at hr
  have hs:=AGC (N:=N) hr (by rw[F5];omega)
  rw[F5]at hs
  unfold Ct
  simp only[Ab]
  rw[TI (by omega),hk,if_pos rfl,Int.toNat_natCast]
  refine hs.bind fun d' h=>?_
  have hlen:d'.length=c.items.length:=by rw[h.1.len,F5]
  rw[AU hlen]
  have hperm:=h.1.perm (by rw[F5];exact Nat.le_refl _)
  refine Ok.ret ⟨?_,hperm⟩
  refine QO ?_ (AGz (by rw[hlen];exact h.2)) (OG _)
  have:=hperm.map (kth c)
  rw[AFk hl]at this
  exact this.trans (JB _).symm
end
end Go.VM
namespace Go.VM
def zeroV:ApiValue:=ApiValue.mk 0 [] [] []
def Ip:List (List UInt8)→List ApiValue→List UInt8→ApiValue×Bool
  |k::ks,x::xs,key=>if k==key then(x,true)else Ip ks xs key
  |_,_,_=>(zeroV,false)
def AHu (v:ApiValue) (key:List UInt8):ApiValue×Bool:=if v.kind==7 then Ip v.keys v.items key else(zeroV,false)
mutual
def Gs:ApiValue→Nat
  |⟨_,_,_,items⟩=>1+Dx items
def Dx:List ApiValue→Nat
  |[]=>0
  |x::xs=>Gs x+Dx xs
end
theorem Ih (v:ApiValue):Gs v=1+Dx v.items:=by cases v;rw[Gs]
inductive okB (B:Nat):Nat→ApiValue→Prop
  |mk{d:Nat} (v:ApiValue) (ht:v.text.length≤300 * B) (hk:v.keys.length≤810+100 * B) (hl: ∀k,k∈v.keys→k.length≤300 * B) (hi:v.items.length≤800+100 * B) (h: ∀x,x∈v.items→okB B d x):okB B (d+1) v
abbrev okW:Nat→ApiValue→Prop:=okB 1
section
variable{N B:Nat}
theorem okB.text{d:Nat}{v:ApiValue}:okB B d v→v.text.length≤300 * B|.mk _ h _ _ _ _=>h
theorem okB.keys{d:Nat}{v:ApiValue}:okB B d v→v.keys.length≤810+100 * B|.mk _ _ h _ _ _=>h
theorem okB.klen{d:Nat}{v:ApiValue}:okB B d v→ ∀k,k∈v.keys→k.length≤300 * B|.mk _ _ _ h _ _=>h
theorem okB.items{d:Nat}{v:ApiValue}:okB B d v→v.items.length≤800+100 * B|.mk _ _ _ _ h _=>h
theorem okB.sub{d:Nat}{v:ApiValue}:okB B (d+1) v→ ∀x,x∈v.items→okB B d x|.mk _ _ _ _ _ h=>h
theorem okB.pos{d:Nat}{v:ApiValue}:okB B d v→0<d|.mk _ _ _ _ _ _=>by omega
theorem okW.text{d:Nat}{v:ApiValue} (h:okW d v):v.text.length≤300:=okB.text h
theorem okW.keys{d:Nat}{v:ApiValue} (h:okW d v):v.keys.length≤910:=okB.keys h
theorem okW.klen{d:Nat}{v:ApiValue} (h:okW d v): ∀k,k∈v.keys→k.length≤300:=okB.klen h
theorem okW.items{d:Nat}{v:ApiValue} (h:okW d v):v.items.length≤900:=okB.items h
theorem okW.sub{d:Nat}{v:ApiValue} (h:okW (d+1) v): ∀x,x∈v.items→okW d x:=okB.sub h
theorem okB.mono{d:Nat}{v:ApiValue} (h:okB B d v): ∀e,d≤e→okB B e v:=by
  induction h with
  | mk v ht hk hl hi h ih=>
    intro e he
    obtain⟨e',rfl⟩: ∃e',e=e'+1:=⟨e-1,by omega⟩
    exact .mk v ht hk hl hi fun x hx=>ih x hx e' (by omega)
theorem Rs (k6:Unit→Option Int): ∀(l:List (List UInt8)),(EA N k6 l=k6 ()∧ ∀k,k∈l→k.length≤300)∨EA N k6 l=some (-1)
  |[]=>by rw[EA];exact .inl ⟨rfl,by simp⟩
  | x::l=>by
    rw[EA]
    split
    · exact .inr rfl
    · rename_i hx
      rcases Rs k6 l with h|h
      · refine .inl ⟨h.1,fun k hk=>?_⟩
        rcases List.mem_cons.1 hk with rfl|hk
        · simp only[decide_eq_true_eq]at hx;omega
        · exact h.2 k hk
      · exact .inr h
theorem Qp (dn:Nat) (rc:ApiValue→Int→Int→Option Int) (hd:dn≤900): ∀(l:List ApiValue) (ln:Nat),ln≤900→
    (∀x,x∈l→ ∀n:Nat,n≤900→ ∃r:Int,rc x n dn=some r∧r≤n∧(0≤r→okW dn x∧r+Gs x=n))→
    ∃r:Int,D9 N ((dn+1:Nat):Int) rc (fun j=>some j) l (ln:Int)=some r∧r≤ln∧(0≤r→(∀x,x∈l→okW dn x)∧r+Dx l=ln)
  |[],ln,_,_=>by rw[D9];exact⟨ln,rfl,by omega,by simp[Dx]⟩
  | x::l,ln,hln,hr=>by
    obtain⟨r,e1,e2,e3⟩:=hr x (by simp) ln hln
    rw[D9,show wr .i64 (((dn+1:Nat):Int)-1)=(dn:Int) by rw[A8 (by omega)];omega,e1,Option.bind_some]
    split
    · exact⟨-1,rfl,by omega,by omega⟩
    · rename_i hn
      have hn':0≤r:=by simpa using hn
      obtain⟨rn,rfl⟩:=Int.eq_ofNat_of_zero_le hn'
      obtain⟨r2,f1,f2,f3⟩:=Qp dn rc hd l rn (by omega) (fun y hy=>hr y (by simp[hy]))
      refine⟨r2,f1,by omega,fun h=>⟨fun y hy=>?_,?_⟩⟩
      · rcases List.mem_cons.1 hy with rfl|hy
        · exact(e3 hn').1
        · exact(f3 h).1 y hy
      · have:=(e3 hn').2;have:=(f3 h).2;rw[Dx];omega
theorem ABK: ∀(D:Nat) (v:ApiValue) (ln dn:Nat),dn<D→dn≤900→ln≤900→ ∃r:Int,Ew N D v ln dn=some r∧r≤ln∧(0≤r→okW dn v∧r+Gs v=ln)
  |0,_,_,_,h,_,_=>by omega
  | D + 1, v, ln,dn,hd,hdn,hl=>by
    rw[Ew,Ab]
    simp only[Ab,if_true]
    have none: ∃r:Int,some (-1:Int)=some r∧r≤(ln:Int)∧(0≤r→okW dn v∧r+Gs v=ln):=⟨-1,rfl,by omega,by omega⟩
    split
    · exact none
    · split
      · exact none
      · split
        · exact none
        · split
          · exact none
          · rename_i h1 h2 h3 h4
            simp only[decide_eq_true_eq]at h1 h2 h3 h4
            by_cases h5:decide ((v.items.length:Int)>(ln:Int))=true
            · rw[if_pos h5];exact none
            · rw[if_neg h5]
              simp only[decide_eq_true_eq]at h5
              rw[A8 (by omega)]at h4
              obtain⟨l1,rfl⟩: ∃l1,ln=l1+1:=⟨ln-1,by omega⟩
              obtain⟨d1,rfl⟩: ∃d1,dn=d1+1:=⟨dn-1,by omega⟩
              rw[JA (by omega),show wr .i64 (((l1+1:Nat):Int)-1)=(l1:Int) by rw[A8 (by omega)];omega]
              rcases Rs (N:=N) (fun _=>grd (BD v.items.length) (D9 N ((d1+1:Nat):Int) (Ew N D) (fun j=>some j) v.items (l1:Int))) v.keys with e1|e1
              · rw[e1.1,JA (by omega)]
                obtain⟨r,f1,f2,f3⟩:=Qp (N:=N) d1 (Ew N D) (by omega) v.items l1 (by omega) (fun x hx n hn=>ABK D x n d1 (by omega) (by omega) hn)
                exact⟨r,f1,by omega,fun h=>⟨.mk _ (by omega) (by omega) e1.2 (by omega) (f3 h).1,by have:=(f3 h).2;rw[Ih];omega⟩⟩
              · rw[e1];exact none
theorem AFp (hN:71≤N) (v:ApiValue) (n:Nat) (hn:n≤800): ∃b,Jp N v n=some b∧(b=true→okW 70 v∧Gs v≤n):=by
  obtain⟨r,e1,e2,e3⟩:=ABK (N:=N) N v n 70 (by omega) (by omega) (by omega)
  refine⟨decide (r≥0),?_,fun h=>?_⟩
  · unfold Jp
    rw[show(70:Int)=((70:Nat):Int)from rfl,e1];rfl
  · have h0:0≤r:=by simpa using h
    have:=e3 h0
    exact⟨this.1,by omega⟩
theorem TY (v:ApiValue) (key:List UInt8) (k2:Unit→Option (ApiValue×Bool)): ∀(ks:List (List UInt8)) (i:Int),(v.items.length:Int)≤i→DL N v key k2 ks i=k2 ()
  |[],i,h=>by rw[DL]
  | x::ks,i,h=>by
    have h3:decide (i<(v.items.length:Int))=false:=by simp;omega
    rw[DL,Ab,h3,TY v key k2 ks (i+1) (by omega)]
    simp
theorem S9 (v:ApiValue) (key:List UInt8) (k2:Unit→Option (ApiValue×Bool)) (h5:k2 ()=some (zeroV,false)): ∀(ks:List (List UInt8)) (xs xpre:List ApiValue),v.items=xpre++xs→
    DL N v key k2 ks (xpre.length:Int)=some (Ip ks xs key)
  | [],xs,xpre,hx=>by
    rw[DL];simp[h5,Ip]
  | x::ks,[],xpre,hx=>by
    have e:Ip (x::ks) [] key=(zeroV,false):=by simp[Ip]
    rw[TY v key k2 _ _ (by rw[hx];simp),h5,e]
  | x::ks,y::ys,xpre,hx=>by
    have ih:=S9 v key k2 h5 ks ys (xpre++[y]) (by rw[hx];simp)
    rw[DL,Ab,AK9 hx,Zj hx,Option.bind_some,Kk xpre y,ih,Ip]
    cases x==key<;>simp
theorem AID (v:ApiValue) (key:List UInt8) (hb:v.keys.length≤4611686018427387904):Ji N v key=some (AHu v key):=by
  unfold Ji AHu
  cases h:(v.kind==7)
  · have:(v.kind !=7)=true:=by simp only[bne,h,Bool.not_false]
    rw[if_pos this];rfl
  · have:(v.kind !=7)=false:=by simp only[bne,h,Bool.not_true]
    rw[this,if_neg (by simp),Ab,JA (by omega)]
    exact S9 (N:=N) v key (fun _=>some (zeroV,false)) rfl v.keys v.items [] rfl
inductive okD:Nat→ApiValue→Prop
  |mk{d:Nat} (v:ApiValue) (hk:v.keys.length≤4611686018427387904) (hi:v.items.length≤4611686018427387904) (h: ∀x,x∈v.items→okD d x):okD (d+1) v
theorem okB.dB{d:Nat}{v:ApiValue} (h:okB B d v) (hB:B≤1000):okD d v:=by
  induction h with
  |mk v ht hk hl hi h ih=>exact .mk v (by omega) (by omega) ih
theorem okW.d{d:Nat}{v:ApiValue} (h:okW d v):okD d v:=okB.dB h (by omega)
theorem QU (v:ApiValue) (k14:Unit→Option Bool) (h:k14 ()=some true): ∀(suf pre:List (List UInt8)),v.keys=pre++suf→Dz N v k14 suf (pre.length:Int)=some true
  |[],_,_=>by rw[Dz];exact h
  | x::suf,pre,e=>by
    rw[Dz,Zj e,Option.bind_some,if_pos (by simp),Kk pre x]
    exact QU v k14 h suf (pre++[x]) (by rw[e];simp)
theorem Qt (v:ApiValue) (rc:ApiValue→ApiValue→Option Bool) (k6:Unit→Option Bool) (h:k6 ()=some true): ∀(suf pre:List ApiValue),v.items=pre++suf→(∀x,x∈suf→rc x x=some true)→Dy N v rc k6 suf (pre.length:Int)=some true
  |[],_,_,_=>by rw[Dy];exact h
  | x::suf,pre,e,hr=>by
    rw[Dy,Zj e,Option.bind_some,hr x (by simp),Option.bind_some,if_pos rfl,Kk pre x]
    exact Qt v rc k6 h suf (pre++[x]) (by rw[e];simp) fun y hy=>hr y (by simp[hy])
theorem Ti: ∀(D d:Nat) (v:ApiValue),okD d v→d≤D→FD N D v v=some true
  |0,d,v,h,hd=>by cases h;omega
  | D+1,d,v,h,hd=>by
    cases h with
    | mk v hk hi h=>
      rename_i d
      rw[FD]
      simp only[Ab,bne_self_eq_false,Bool.false_eq_true,if_false,beq_self_eq_true,if_true]
      rw[JA hi]
      refine Qt v _ _ ?_ v.items [] rfl fun x hx=>Ti D d x (h x hx) (by omega)
      rw[JA hk]
      exact QU v _ rfl v.keys [] rfl
end
end Go.VM
