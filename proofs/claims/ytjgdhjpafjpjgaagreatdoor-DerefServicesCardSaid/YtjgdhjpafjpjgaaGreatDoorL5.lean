import Derived.Test.YtjgdhjpafjpjgaaGreatDoorL4
import Derived.Test.YtjgdhjpafjpjgaaGreatDoorDefs
set_option linter.unusedVariables false
set_option linter.unusedSimpArgs false
namespace Go.VM
section
variable{N:Nat}
theorem AJv (a:Int) (k2:Unit→Option Bool) (h:k2 ()=some false): ∀l:List UInt8,Ef N a k2 l=some (l.any fun c=>AJ c==a)
  |[]=>by rw[Ef];simpa using h
  | x::l=>by
    rw[Ef,AJv a k2 h l,List.any_cons]
    cases AJ x==a<;>rfl
theorem Vy (a:Int) (l:List UInt8) (h:l.length≤1000):E8 N a l=some (l.any fun c=>AJ c==a):=by
  unfold E8
  rw[AB,Be (by omega)]
  exact AJv a _ rfl l
theorem digit_eq (a:Int):BV N a=some (decide (a≥48)&&decide (a≤57)):=by
  unfold BV
  by_cases h:a≥48<;>simp[h]
def Aab (c:UInt8):Bool:=decide (AJ c≥48)&&decide (AJ c≤57)
def runN (l:List UInt8):Nat:=(l.takeWhile Aab).length
theorem AVB (l:List UInt8):runN l≤l.length:=(List.takeWhile_sublist _).length_le
theorem ACz (l:List UInt8) (k2:Int→Option Int) (hb:l.length≤1000000): ∀(suf pre:List UInt8) (k:Nat),l=pre++suf→suf.length<k→FQ N l k2 k (pre.length:Int)=k2 ((pre.length+runN suf:Nat):Int)
  | [],pre,k+1,h,_=>by
    rw[FQ,AB]
    have:decide ((pre.length:Int)<(l.length:Int))=false:=by rw[h];simp
    rw[this];simp[runN]
  | x::suf,pre,k+1,h,hk=>by
    simp only[List.length_cons]at hk
    have hl:pre.length<l.length:=by rw[h];simp
    rw[FQ,AB,ASN h,if_pos rfl,AIM h,Option.bind_some,digit_eq,Option.bind_some]
    cases hd:Aab x
    · have:(decide (AJ x≥48)&&decide (AJ x≤57))=false:=hd
      rw[this];simp[runN,hd]
    · have:(decide (AJ x≥48)&&decide (AJ x≤57))=true:=hd
      rw[this]
      simp only[if_true]
      rw[AR (by omega),OI pre x,ACz l k2 hb suf (pre++[x]) k (by rw[h];simp) (by omega)]
      simp only[runN,List.takeWhile_cons,hd,if_true,List.length_cons,List.length_append,List.length_nil]
      congr 2;omega
theorem AX0 (l:List UInt8) (hN:l.length<N) (hb:l.length≤1000000):JR N l=some (runN l:Int):=by
  unfold JR
  rw[AB]
  have:=ACz (N:=N) l (fun j=>some j) hb l [] N rfl hN
  simpa using this
theorem XA (l:List UInt8) (i:Int) (h:0≤i):Ok (I5 N l i) (fun x=>x=l.drop i.toNat):=by
  unfold I5
  refine Ok.ite (fun hc=>Ok.ret ?_) (fun hc=>Ok.bind (Ok.sub h (by simp at hc;omega) (Int.le_refl _)) fun x hx=>Ok.ret ?_)
  · simp only[decide_eq_true_eq]at hc
    rw[List.drop_of_length_le (by omega)]
  · rw[hx.1,List.take_of_length_le (by simp)]
theorem AIC (l:List UInt8) (hN:l.length<N) (hb:l.length≤1000000):Ok (JR N l) (fun n=>n=(runN l:Int)∧0≤n∧n≤l.length):=by
  refine⟨_,AX0 l hN hb,rfl,by omega,?_⟩
  have:=AVB l;omega
theorem Te (l:List UInt8) (hN:l.length<N) (hb:l.length≤1000000):Ok (Gs N l) (fun n=>0≤n∧n≤l.length):=by
  unfold Gs
  have dl: ∀i:Nat,(l.drop i).length≤l.length:=fun i=>by simp
  refine Ok.meet (fun j1:Int=>0≤j1∧j1≤1∧j1≤l.length) (fun j1 h1=>?_) (fun k2 h2=>?_)
  · refine Ok.meet (fun j10:Bool=>j10=false→j1<l.length) (fun j10 h10=>?_) (fun k11 h11=>?_)
    · refine Ok.ite (fun _=>Ok.ret (by omega)) (fun hf=>?_)
      have hj:=h10 hf
      refine Ok.meet (fun j17:Int=>0≤j17∧j17≤l.length) (fun j17 h17=>?_) (fun k18 h18=>?_)
      · refine Ok.meet (fun j25:Int=>0≤j25∧j25≤l.length) (fun j25 h25=>?_) (fun k26 h26=>?_)
        · refine Ok.meet (fun j38:Int=>0≤j38∧j38≤l.length) (fun j38 h38=>Ok.ret h38) (fun k39 h39=>?_)
          refine Ok.meet (fun j42:Bool=>j42=true→j25<l.length) (fun j42 h42=>?_) (fun k43 h43=>?_)
          · refine Ok.ite (fun ht=>?_) (fun _=>h39 _ h25)
            have hlt:=h42 ht
            refine Ok.meet (fun j49:Int=>0≤j49∧j49≤l.length) (fun j49 h49=>?_) (fun k50 h50=>?_)
            · refine Ok.bind (XA l j49 h49.1) fun y60 h60=>?_
              have hl:y60.length=l.length-j49.toNat:=by rw[h60];simp
              refine Ok.bind (AIC y60 (by omega) (by omega)) fun y62 h62=>?_
              refine Ok.ite (fun _=>h39 _ ?_) (fun _=>h39 _ h25)
              rw[AR (by omega)];omega
            · refine Ok.meet (fun j53:Bool=>j53=true→j25+1<l.length) (fun j53 h53=>?_) (fun k54 h54=>?_)
              · rw[AR (n:=j25+1) (by omega),AR (n:=j25+1+1) (by omega)]
                exact Ok.ite (fun ht=>h50 _ (by have:=h53 ht;omega)) (fun _=>h50 _ (by omega))
              · rw[AR (n:=j25+1) (by omega)]
                refine Ok.ite (fun hc=>?_) (fun _=>h54 _ (by simp))
                simp only[decide_eq_true_eq]at hc
                refine Ok.bind (Ok.idx (by omega) hc) fun x57 _=>?_
                rw[Vy _ _ (by simp),Option.bind_some]
                exact h54 _ (fun _=>hc)
          · refine Ok.ite (fun hc=>?_) (fun _=>h43 _ (by simp))
            simp only[decide_eq_true_eq]at hc
            refine Ok.bind (Ok.idx h25.1 hc) fun x46 _=>?_
            rw[Vy _ _ (by simp),Option.bind_some]
            exact h43 _ (fun _=>hc)
        · rw[AR (n:=j17+1) (by omega)]
          refine Ok.bind (XA l (j17+1) (by omega)) fun y29 h29=>?_
          have hl:y29.length=l.length-(j17+1).toNat:=by rw[h29];simp
          refine Ok.bind (AIC y29 (by omega) (by omega)) fun y31 h31=>?_
          refine Ok.meet (fun j33:Bool=>j33=true→j17<l.length) (fun j33 h33=>?_) (fun k34 h34=>?_)
          · rw[AR (n:=1+y31) (by omega),AR (n:=j17+(1+y31)) (by omega)]
            refine Ok.ite (fun ht=>h26 _ ?_) (fun _=>h26 _ h17)
            have:=h33 ht;omega
          · refine Ok.ite (fun hc=>?_) (fun _=>h34 _ (by simp))
            simp only[decide_eq_true_eq]at hc
            refine Ok.bind (Ok.idx h17.1 hc) fun x37 _=>?_
            exact Ok.ite (fun _=>h34 _ (fun _=>hc)) (fun _=>h34 _ (by simp))
      · refine Ok.bind (Ok.idx h1.1 hj) fun x21 _=>?_
        refine Ok.ite (fun _=>?_) (fun _=>?_)
        · rw[AR (n:=j1+1) (by omega)];exact h18 _ (by omega)
        · refine Ok.bind (Ok.sub h1.1 h1.2.2 (Int.le_refl _)) fun x22 h22=>?_
          have hl:=h22.2
          refine Ok.bind (AIC x22 (by omega) (by omega)) fun y23 h23=>?_
          rw[AR (n:=j1+y23) (by omega)];exact h18 _ (by omega)
    · refine Ok.ite (fun _=>h11 _ (by simp)) (fun hc=>?_)
      have hj:j1<l.length:=by
        have:j1≠l.length:=by simpa using hc
        omega
      refine Ok.bind (Ok.idx h1.1 hj) fun x14 _=>?_
      rw[digit_eq,Option.bind_some]
      exact h11 _ (fun _=>hj)
  · refine Ok.meet (fun j5:Bool=>j5=true→0<l.length) (fun j5 h5=>?_) (fun k6 h6=>?_)
    · refine Ok.ite (fun ht=>h2 _ ?_) (fun _=>h2 _ (by omega))
      have:=h5 ht
      rw[AR (by omega)];omega
    · refine Ok.ite (fun hc=>?_) (fun _=>h6 _ (by simp))
      simp only[decide_eq_true_eq]at hc
      exact Ok.bind (Ok.idx (by omega) hc) fun x9 _=>h6 _ (fun _=>by omega)
theorem TQ (set:List UInt8) (hs:set.length≤1000) (k2:Unit→Option Int) (n:Int) (h:k2 ()=some n): ∀(l:List UInt8) (i:Int),0≤i→i+l.length=n→Ok (Ce N set k2 l i) (fun r=>0≤r∧r≤n)
  |[],i,hi,hn=>by rw[Ce,h];exact Ok.ret (by simp at hn;omega)
  | x::l,i,hi,hn=>by
    simp only[List.length_cons]at hn
    rw[Ce,Vy _ _ hs,Option.bind_some]
    exact Ok.ite (fun _=>Ok.ret (by omega)) (fun _=>TQ set hs k2 n h l (i+1) (by omega) (by omega))
theorem ADo (l set:List UInt8) (hs:set.length≤1000) (hb:l.length≤1000000):Ok (BC N l set) (fun r=>0≤r∧r≤l.length):=by
  unfold BC
  refine Ok.join (Ok.grd (by unfold AO;omega) ?_)
  exact TQ set hs _ _ rfl l 0 (by omega) (by omega)
theorem AEb (k19:Int→Option Int) (hk: ∀n,0≤n→n≤1073741824→Ok (k19 n) (fun r=> -1073741824≤r∧r≤1073741824)): ∀(l:List UInt8) (n:Int),0≤n→n≤1073741824→Ok (C9 N k19 l n) (fun r=> -1073741824≤r∧r≤1073741824)
  |[],n,h0,h1=>by rw[C9];exact hk n h0 h1
  | x::l,n,h0,h1=>by
    rw[C9]
    have hw:0≤wr .u8 (AJ x-48)∧wr .u8 (AJ x-48)≤255:=by
      simp only[wr,IntKind.wrap,IntKind.bits,IntKind.signed];simp;omega
    rw[AR (n:=n * 10) (by omega),AR (n:=wr .u8 (AJ x-48)) (by omega),AR (n:=n * 10+wr .u8 (AJ x-48)) (by omega)]
    refine AEb k19 hk l _ ?_ ?_
    · split<;>omega
    · split<;>omega
theorem ADX (l:List UInt8) (hb:l.length≤1000000):Ok (Ho N l) (fun r=> -1073741824≤r∧r≤1073741824):=by
  unfold Ho
  have pos: ¬(l==[])=true→(0:Int)<l.length:=fun h=>by
    have:l≠ []:=by simpa using h
    have:=List.length_pos_iff.2 this;omega
  refine Ok.meet (fun _:Bool=>True) (fun j1 _=>?_) (fun k2 h2=>?_)
  · refine Ok.meet (fun j6:List UInt8=>j6.length≤l.length) (fun j6 h6=>?_) (fun k7 h7=>?_)
    · refine Ok.join (Ok.grd (by unfold AO;omega) (AEb _ (fun n h0 h1=>?_) _ _ (by omega) (by omega)))
      refine Ok.ite (fun _=>Ok.ret ?_) (fun _=>Ok.ret ⟨by omega,by omega⟩)
      rw[AR (by omega)];omega
    · refine Ok.meet (fun j10:Bool=>j10=true→(0:Int)<l.length) (fun j10 h10=>?_) (fun k11 h11=>?_)
      · refine Ok.ite (fun ht=>?_) (fun _=>h7 _ (Nat.le_refl _))
        have:=h10 ht
        exact Ok.bind (Ok.sub (by omega) (by omega) (Int.le_refl _)) fun x hx=>h7 _ (by have:=hx.2;omega)
      · refine Ok.ite (fun _=>h11 _ (by simp)) (fun hf=>?_)
        have:=pos (by simp[hf])
        refine Ok.bind (Ok.idx (by omega) this) fun x _=>?_
        rw[Vy _ _ (by simp),Option.bind_some]
        exact h11 _ (fun _=>this)
  · refine Ok.ite (fun _=>h2 _ trivial) (fun hf=>?_)
    exact Ok.bind (Ok.idx (by omega) (pos (by simp[hf]))) fun x _=>h2 _ trivial
theorem Sg: ∀(d k n:Nat) (acc:List UInt8),n<10^(d+1)→d<k→n<18446744073709551616→acc.length+d≤1000→Ok (DW N k (n:Int) acc) (fun r=>r.length≤acc.length+d+1)
  |d,0,n,acc,h,hk,hn,ha=>by omega
  | d,k+1,n,acc,h,hk,hn,ha=>by
    have hd:wr .u64 ((n:Int).tdiv 10)=((n / 10:Nat):Int):=by
      rw[Int.tdiv_eq_ediv_of_nonneg (by omega)]
      simp only[wr,IntKind.wrap,IntKind.bits,IntKind.signed];simp;omega
    rw[DW,hd]
    refine Ok.grd (by unfold AO;simp<;>omega) (Ok.ite (fun _=>Ok.ret (by simp<;>omega)) (fun hc=>?_))
    have hc':n / 10≠0:=by
      have:((n / 10:Nat):Int)≠0:=by simpa using hc
      omega
    cases d with
    |zero=>simp at h;omega
    | succ d=>
      refine(Sg d k (n / 10) _ ?_ (by omega) (by omega) (by simp;omega)).mono fun r hr=>by simp at hr;omega
      rw[Nat.pow_succ]at h
      omega
theorem WX (n:Nat) (h1:n<1000000000000) (hN:20≤N):Ok (Ew N n) (fun r=>r.length≤13):=by
  unfold Ew
  exact(Sg 11 N n [] (by simpa using h1) (by omega) (by omega) (by simp)).mono fun r hr=>by simp at hr;omega
theorem V8 (k40:Int×List UInt8→Option (List UInt8×Int)) (P:List UInt8×Int→Prop) (L:Nat) (hL:L≤1000000) (hk: ∀(x:Int) (m:List UInt8),-2000000000≤x→x≤2000000000→m.length≤L→Ok (k40 (x,m)) P): ∀(k:Nat) (x:Int) (m:List UInt8),m.length<k→m.length≤L→ -2000000000≤x→x+m.length≤2000000000→(∃c,m.head?=some c∧c≠48)→Ok (Ee N k40 k x m) P
  |0,x,m,h,_,_,_,_=>by omega
  | k+1,x,m,h,hm,h0,h1,hc=>by
    obtain⟨c,hc,hne⟩:=hc
    have hpos:0<m.length:=by
      cases m with
      |nil=>simp at hc
      |cons=>simp
    rw[Ee,AR (n:=(m.length:Int)-1) (by omega)]
    refine Ok.bind (Ok.idx (by omega) (by omega)) fun y hy=>?_
    refine Ok.ite (fun ht=>?_) (fun _=>hk x m (by omega) (by omega) hm)
    refine Ok.bind (Ok.sub (by omega) (by omega) (by omega)) fun z hz=>?_
    rw[AR (n:=x+1) (by omega)]
    have hl:=hz.2
    have h2:1<m.length:=by
      rcases Nat.lt_or_ge 1 m.length with h|h
      · exact h
      · exfalso
        match m,hpos,h,hc,hy with
        | [d],_,_,hc,hy=>
          simp at hc hy
          subst hc;subst hy
          have:AJ d=48:=by simpa using ht
          exact hne (by
            have h3:d.toNat=48:=by unfold AJ at this;omega
            exact UInt8.toNat_inj.1 (by rw[h3];rfl))
    refine V8 k40 P L hL hk k (x+1) z (by omega) (by omega) (by omega) (by omega) ⟨c,?_,hne⟩
    rw[hz.1]
    cases m with
    |nil=>simp at hpos
    | cons a m=>
      simp at hc;subst hc
      have e:((((a::m).length:Nat):Int)-1).toNat-(0:Int).toNat=m.length:=by simp
      rw[e]
      cases m with
      |nil=>simp at h2
      |cons b m=>simp
theorem Un (k29:List UInt8→Option (List UInt8×Int)) (B:Nat) (P:List UInt8×Int→Prop) (hk: ∀m:List UInt8,m.length≤B→(m=[]∨ ∃c,m.head?=some c∧c≠48)→Ok (k29 m) P): ∀(k:Nat) (m:List UInt8),m.length<k→m.length≤B→Ok (Ec N k29 k m) P
  |0,m,h,_=>by omega
  | k+1,m,h,hb=>by
    rw[Ec,AB]
    cases m with
    | nil=>
      have:decide ((([]:List UInt8).length:Int)>0)=false:=by simp
      rw[this];simpa using hk [] (by simp) (.inl rfl)
    | cons a m=>
      simp only[List.length_cons]at h hb
      have h1:decide (((a::m).length:Int)>0)=true:=by simp<;>omega
      have h2:idx (a::m) 0=some a:=by simp[idx]
      rw[h1,if_pos rfl,h2,Option.bind_some]
      refine Ok.ite (fun ht=>?_) (fun hf=>hk _ (by simpa using hb) (.inr ⟨a,rfl,fun e=>?_⟩))
      · exact Ok.bind (Ok.sub (by omega) (by simp;omega) (Int.le_refl _)) fun x hx=>Un k29 B P hk k x (by have:=hx.2;simp at this;omega) (by have:=hx.2;simp at this;omega)
      · subst e;simp[AJ]at hf
theorem AK8 (l:List UInt8) (hN:l.length+30<N) (hb:l.length≤100000):Ok (Je N l) (fun r=>r.1.length≤2 * l.length+100):=by
  unfold Je
  refine Ok.meet (fun j1:Bool=>j1=false→0<l.length) (fun j1 h1=>?_) (fun k2 h2=>?_)
  · refine Ok.ite (fun _=>Ok.ret (by simp)) (fun hf=>?_)
    have hpos:=h1 hf
    refine Ok.meet (fun j:List UInt8×List UInt8=>j.1.length≤l.length∧j.2.length≤1) (fun j hj=>?_) (fun k8 h8=>?_)
    · refine Ok.bind (ADo j.1 _ (by simp) (by omega)) fun y13 h13=>?_
      rw[AR (n:=y13+1) (by omega)]
      refine Ok.bind (XA j.1 (y13+1) (by omega)) fun y15 h15=>?_
      have hl15:y15.length≤j.1.length:=by rw[h15];simp
      refine Ok.bind (ADX y15 (by omega)) fun y17 h17=>?_
      refine Ok.bind (Ok.sub (by omega) h13.1 h13.2) fun x19 h19=>?_
      have hl19:=h19.2
      refine Ok.meet (fun j20:Int×List UInt8=> -1100000000≤j20.1∧j20.1≤1100000000∧j20.2.length≤l.length) (fun j20 hj20=>?_) (fun k21 h21=>?_)
      · refine Ok.meet (fun m:List UInt8=>m.length≤l.length∧(m=[]∨ ∃c,m.head?=some c∧c≠48)) (fun m hm=>?_) (fun k29 h29=>?_)
        · refine Ok.ite (fun _=>Ok.ret (by simp)) (fun hne=>?_)
          refine Ok.meet (fun p:Int×List UInt8=>p.2.length≤l.length) (fun p hp=>?_) (fun k40 h40=>?_)
          · refine Ok.meet (fun b:Bool=>b=false→ -400≤p.1∧p.1≤400) (fun b hb'=>?_) (fun k47 h47=>?_)
            · refine Ok.ite (fun _=>Ok.ret (by simp)) (fun hf=>?_)
              have hx:=hb' hf
              refine Ok.ite (fun hlt=>?_) (fun _=>Ok.ite (fun hgt=>?_) (fun _=>Ok.grd (by unfold AO;omega) (Ok.ret (by simp<;>omega))))
              · simp only[decide_eq_true_eq]at hlt
                obtain⟨n,hn⟩: ∃n:Nat,0-p.1=n:=⟨(0-p.1).toNat,by omega⟩
                have e:wr .u64 (wr .i64 (0-p.1))=(n:Int):=by
                  rw[AR (by omega),hn]
                  simp only[wr,IntKind.wrap,IntKind.bits,IntKind.signed];simp;omega
                rw[e]
                refine Ok.grd (by unfold AO;omega) (Ok.grd (by unfold AO;simp<;>omega) (Ok.bind (WX n (by omega) (by omega)) fun y hy=>Ok.grd (by unfold AO;simp<;>omega) (Ok.ret (by simp<;>omega))))
              · simp only[decide_eq_true_eq]at hgt
                obtain⟨n,hn⟩: ∃n:Nat,p.1=n:=⟨p.1.toNat,by omega⟩
                have e:wr .u64 p.1=(n:Int):=by
                  rw[hn]
                  simp only[wr,IntKind.wrap,IntKind.bits,IntKind.signed];simp;omega
                rw[e]
                refine Ok.grd (by unfold AO;omega) (Ok.grd (by unfold AO;simp<;>omega) (Ok.bind (WX n (by omega) (by omega)) fun y hy=>Ok.grd (by unfold AO;simp<;>omega) (Ok.ret (by simp<;>omega))))
            · refine Ok.ite (fun _=>h47 _ (by simp)) (fun _=>Ok.ite (fun _=>h47 _ (by simp)) (fun h4=>h47 _ (fun h5=>?_)))
              simp only[decide_eq_false_iff_not]at h4 h5
              omega
          · rcases hm.2 with hm2|hm2
            · rw[hm2]at hne;simp at hne
            · exact V8 k40 _ l.length (by omega) (fun x m' _ _ h=>h40 _ h) N j20.1 m (by omega) hm.1 (by omega) (by omega) hm2
        · exact Un k29 l.length _ (fun m hm hc=>h29 _ ⟨hm,hc⟩) N j20.2 (by omega) hj20.2.2
      · refine Ok.bind (ADo x19 _ (by simp) (by omega)) fun y24 h24=>?_
        refine Ok.ite (fun hc=>?_) (fun _=>h21 _ ⟨by omega,by omega,by simp only[];omega⟩)
        simp only[decide_eq_true_eq]at hc
        refine Ok.bind (Ok.sub (by omega) h24.1 h24.2) fun x26 h26=>?_
        rw[AR (n:=y24+1) (by omega),AR (n:=(x19.length:Int)-y24) (by omega),AR (n:=(x19.length:Int)-y24-1) (by omega),AR (n:=y17-((x19.length:Int)-y24-1)) (by omega)]
        refine Ok.bind (Ok.sub (by omega) (by omega) (Int.le_refl _)) fun x27 h27=>?_
        have a1:=h26.2;have a2:=h27.2
        exact Ok.grd (by unfold AO;omega) (h21 _ ⟨by simp only[];omega,by simp only[];omega,by simp;omega⟩)
    · refine Ok.bind (Ok.idx (by omega) (by omega)) fun x11 _=>?_
      refine Ok.ite (fun _=>?_) (fun _=>h8 _ ⟨Nat.le_refl _,by simp⟩)
      exact Ok.bind (Ok.sub (by omega) (by omega) (Int.le_refl _)) fun x12 h12=>h8 _ ⟨by have:=h12.2;simp only[];omega,by simp⟩
  · refine Ok.ite (fun _=>h2 _ (by simp)) (fun hf=>?_)
    have hpos:0<l.length:=by
      have:l≠ []:=by simpa using hf
      exact List.length_pos_iff.2 this
    exact Ok.bind (Te l (by omega) (by omega)) fun y _=>h2 _ (fun _=>hpos)
end
end Go.VM
namespace Go.VM
section
variable{N:Nat}
theorem AVI (a:Int):Ok (FT N a) (fun _=>True):=by
  unfold FT
  rw[digit_eq,Option.bind_some]
  refine Ok.ite (fun _=>Ok.ret trivial) (fun _=>?_)
  refine Ok.ite (fun _=>Ok.ite (fun _=>Ok.ret trivial) (fun _=>?_)) (fun _=>?_)<;>exact Ok.ite (fun _=>Ok.ret trivial) (fun _=>Ok.ret trivial)
theorem WY (k2:Unit→Option (Int×Int)) (h:Ok (k2 ()) (fun _=>True)): ∀l:List UInt8,Ok (Cf N 16 k2 l) (fun _=>True)
  |[]=>by rw[Cf];exact h
  | x::l=>by
    rw[Cf]
    refine Ok.meet (fun _:Bool=>True) (fun j _=>Ok.ite (fun _=>Ok.ret trivial) (fun _=>WY k2 h l)) (fun k7 h7=>?_)
    refine Ok.ite (fun hc=>by simp at hc) (fun _=>Ok.ite (fun _=>Ok.bind (AVI _) fun y _=>h7 _ trivial) (fun _=>h7 _ trivial))
theorem Wh (k17:Int→Option (Int×Int)) (h: ∀n,Ok (k17 n) (fun _=>True)) (m:Int): ∀(l:List UInt8) (n:Int),Ok (Ci N 16 m k17 l n) (fun _=>True)
  |[],n=>by rw[Ci];exact h n
  | x::l,n=>by
    rw[Ci]
    refine Ok.meet (fun _:Int=>True) (fun j _=>?_) (fun k22 h22=>Ok.ite (fun _=>h22 _ trivial) (fun _=>h22 _ trivial))
    refine Ok.meet (fun _:Bool=>True) (fun b _=>Ok.ite (fun _=>Ok.ret trivial) (fun _=>Wh k17 h m l _)) (fun k26 h26=>?_)
    exact Ok.grd (by decide) (Ok.ite (fun _=>h26 _ trivial) (fun _=>Ok.ite (fun _=>h26 _ trivial) (fun _=>h26 _ trivial)))
theorem AZS (l:List UInt8) (m:Int) (hb:l.length≤1000):Ok (Ml N l m) (fun _=>True):=by
  unfold Ml HV
  refine Ok.bind (Q:=fun _=>True) (Ok.ite (fun _=>Ok.ret trivial) (fun _=>Ok.join (Ok.grd (by unfold AO;omega) (WY _ (Ok.join (Ok.grd (by unfold AO;omega) (Wh _ (fun n=>Ok.ret trivial) m l 0))) l)))) fun y _=>Ok.ret trivial
theorem AKY (l:List UInt8) (i:Int) (h0:0≤i) (h1:i≤2000000) (hb:l.length≤1000000):Ok (KI N l i) (fun r=>r.2=true→i+6≤l.length):=by
  unfold KI
  refine Ok.meet (fun j:Bool=>j=false→i+6≤l.length) (fun j hj=>?_) (fun k2 h2=>?_)
  · refine Ok.ite (fun _=>Ok.ret (by simp)) (fun hf=>?_)
    have:=hj hf
    rw[AR (n:=i+2) (by omega),AR (n:=i+6) (by omega)]
    exact Ok.bind (Ok.sub (by omega) (by omega) (by omega)) fun x hx=>Ok.bind (AZS x _ (by have:=hx.2;omega)) fun y _=>Ok.ret (fun _=>this)
  · rw[AR (n:=i+6) (by omega),AR (n:=i+1) (by omega)]
    refine Ok.ite (fun _=>h2 _ (by simp)) (fun hc=>?_)
    simp only[decide_eq_false_iff_not]at hc
    refine Ok.bind (Ok.idx h0 (by omega)) fun x _=>Ok.ite (fun _=>h2 _ (fun _=>by omega)) (fun _=>?_)
    exact Ok.bind (Ok.idx (by omega) (by omega)) fun x _=>h2 _ (fun _=>by omega)
theorem RS (n:Int):Ok (Gb N n) (fun r=>r.1.length≤4):=by
  unfold Gb
  refine Ok.bind (Q:=fun _=>True) ?_ fun y _=>?_
  · unfold Lx
    refine Ok.ite (fun _=>Ok.ite (fun _=>Ok.ite (fun _=>Ok.ret trivial) (fun _=>Ok.ret trivial)) (fun _=>Ok.ret trivial)) (fun _=>Ok.ret trivial)
  · refine Ok.ite (fun _=>Ok.ite (fun _=>Ok.ret (by simp)) (fun _=>Ok.ite (fun _=>Ok.letL (Ok.ret (by simp))) (fun _=>Ok.ite (fun _=>Ok.letL (Ok.ret (by simp))) (fun _=>Ok.letL (Ok.ret (by simp)))))) (fun _=>Ok.ret (by simp))
theorem AQF: ∀j:Nat,j<8→(Cm [34,92,47,98,102,110,114,116] j).2=1:=by
  intro j h
  match j,h with
  |0,_=>rfl
  |1,_=>rfl
  |2,_=>rfl
  |3,_=>rfl
  |4,_=>rfl
  |5,_=>rfl
  |6,_=>rfl
  |7,_=>rfl
theorem SV (l:List UInt8) (i:Int) (h0:0≤i) (h1:i+1<l.length) (hb:l.length≤1000000) (P:List UInt8×Int×Int→Prop) (hP: ∀x:List UInt8,x.length≤4→P (x,i+2,0)) (k2:Unit→Option (List UInt8×Int×Int)) (hk:Ok (k2 ()) P):
    ∀(k j:Nat),j≤8→8<k+j→Ok (Ed N l i k2 k j) P
  |0,j,hj,h=>by omega
  | k+1,j,hj,h=>by
    rw[Ed]
    refine Ok.ite (fun hc=>?_) (fun _=>hk)
    simp only[decide_eq_true_eq]at hc
    rw[AQF j hc,AR (n:=i+1) (by omega),AR (n:=(j:Int)+1) (by omega),AR (n:=i+2) (by omega)]
    refine Ok.bind (Ok.idx (by omega) (by simp;omega)) fun x _=>Ok.bind (Ok.idx (by omega) h1) fun y _=>?_
    refine Ok.ite (fun _=>?_) (fun _=>SV l i h0 h1 hb P hP k2 hk k (j+1) (by omega) (by omega))
    exact Ok.bind (Ok.sub (by omega) (by omega) (by simp;omega)) fun z hz=>Ok.ret (hP z (by have:=hz.2;omega))
theorem ALo (l:List UInt8) (i:Int) (h0:0≤i) (h1:i<l.length) (hb:l.length≤1000000) (hN:10≤N):Ok (Jl N l i) (fun r=>r.2.2=0→r.1.length≤4∧i<r.2.1∧r.2.1≤l.length):=by
  unfold Jl
  refine Ok.meet (fun _:Unit=>True) (fun _ _=>?_) (fun k2 h2=>?_)
  · refine Ok.bind (AKY l i h0 (by omega) hb) fun y9 h9=>Ok.ite (fun ht=>?_) (fun _=>Ok.ret (by simp))
    have h6:=h9 ht
    rw[AR (n:=i+6) (by omega),AR (n:=i+12) (by omega)]
    refine Ok.meet (fun _:Bool=>True) (fun j _=>Ok.ite (fun _=>Ok.bind (RS _) fun y h=>Ok.ret (fun _=>⟨h,by simp only[];omega,by simp only[];omega⟩)) (fun _=>?_)) (fun k12 h12=>Ok.ite (fun _=>h12 _ trivial) (fun _=>h12 _ trivial))
    refine Ok.bind (AKY l (i+6) (by omega) (by omega) hb) fun y17 h17=>?_
    refine Ok.meet (fun j:Bool=>j=false→y17.2=true) (fun j hj=>Ok.ite (fun _=>Ok.ret (by simp)) (fun hf=>?_)) (fun k20 h20=>?_)
    · have:=h17 (hj hf)
      exact Ok.bind (RS _) fun y h=>Ok.ret (fun _=>⟨h,by simp only[];omega,by simp only[];omega⟩)
    · refine Ok.ite (fun _=>h20 _ (by simp)) (fun _=>Ok.ite (fun h=>Ok.ite (fun _=>h20 _ (by simp)) (fun _=>h20 _ (fun _=>h))) (fun _=>h20 _ (by simp)))
  · rw[AR (n:=i+1) (by omega)]
    refine Ok.ite (fun hc=>?_) (fun _=>h2 _ trivial)
    simp only[decide_eq_true_eq]at hc
    exact SV l i h0 hc hb _ (fun x hx=>fun _=>⟨hx,by simp only[];omega,by simp only[];omega⟩) k2 (h2 _ trivial) N 0 (by omega) (by omega)
theorem Uv (l:List UInt8) (k4:Int→Option Int) (h: ∀n,Ok (k4 n) (fun _=>True)): ∀(k:Nat) (i n:Int),0≤i→i+k≤l.length→Ok (EZ N l k4 k i n) (fun _=>True)
  |0,i,n,_,_=>by rw[EZ];exact h n
  | k+1,i,n,h0,h1=>by
    rw[EZ]
    exact Ok.bind (Ok.idx h0 (by omega)) fun x _=>Uv l k4 h k (i+1) _ (by omega) (by omega)
theorem ASd (l:List UInt8) (h0:0<l.length) (h1:l.length≤4):Ok (KU N l) (fun _=>True):=by
  unfold KU
  refine Ok.ite (fun _=>Ok.bind (Ok.idx (by omega) (by omega)) fun x _=>Ok.ret trivial) (fun _=>?_)
  refine Ok.bind (Ok.idx (by omega) (by omega)) fun x _=>?_
  rw[AR (n:=7-(l.length:Int)) (by omega)]
  exact Ok.grd (by omega) (Ok.join (Ok.grd (by omega) (Uv l _ (fun n=>Ok.ret trivial) _ _ _ (by omega) (by omega))))
theorem AGS (l:List UInt8) (i:Int) (h0:0≤i) (hi:i<l.length) (hb:l.length≤1000000) (k6:Unit→Option (Int×Int×Int)) (hk:Ok (k6 ()) (fun r=>r.2.2=0→i<r.2.1∧r.2.1≤i+4∧r.2.1≤l.length)): ∀(k:Nat) (j:Int),1≤j→j≤5→5<k+j→
    Ok (Eb N l i k6 k j) (fun r=>r.2.2=0→i<r.2.1∧r.2.1≤i+4∧r.2.1≤l.length)
  |0,j,_,_,h=>by omega
  | k+1,j,h1,h5,h=>by
    rw[Eb]
    rw[AR (n:=i+j) (by omega),AR (n:=j+1) (by omega)]
    refine Ok.meet (fun b:Bool=>b=true→j≤4∧i+j≤l.length) (fun b hb'=>?_) (fun k11 h11=>?_)
    · refine Ok.ite (fun ht=>?_) (fun _=>hk)
      obtain⟨e1,e2⟩:=hb' ht
      refine Ok.bind (Ok.sub h0 (by omega) e2) fun x hx=>?_
      have hl:=hx.2
      refine Ok.bind (ASd x (by omega) (by omega)) fun y _=>Ok.bind (RS y) fun z _=>?_
      refine Ok.meet (fun _:Bool=>True) (fun b _=>Ok.ite (fun _=>Ok.ret (fun _=>⟨by simp only[];omega,by simp only[];omega,by simp only[];omega⟩)) (fun _=>AGS l i h0 hi hb k6 hk k (j+1) (by omega) (by omega) (by omega))) (fun k20 h20=>Ok.ite (fun _=>h20 _ trivial) (fun _=>h20 _ trivial))
    · refine Ok.ite (fun hc=>h11 _ (fun ht=>?_)) (fun _=>h11 _ (by simp))
      simp only[decide_eq_true_eq]at hc ht
      omega
theorem ALg (l:List UInt8) (i:Int) (h0:0≤i) (h1:i<l.length) (hb:l.length≤1000000) (hN:10≤N):Ok (Jo N l i) (fun r=>r.2.2=0→i<r.2.1∧r.2.1≤i+4∧r.2.1≤l.length):=by
  unfold Jo
  refine Ok.join (Ok.ite (fun hc=>?_) (fun _=>Ok.ite (fun hc=>?_) (fun _=>?_)))
  · simp only[decide_eq_true_eq]at hc;omega
  · simp only[decide_eq_true_eq]at hc;omega
  · exact Ok.join (AGS l i h0 h1 hb _ (Ok.ret (by simp)) N 1 (by omega) (by omega) (by omega))
theorem Rh (l:List UInt8) (hb:l.length≤1000000) (hN:10≤N) (i0:Int) (k2:Unit→Option (List UInt8×Int×Int)) (hk:Ok (k2 ()) (fun r=>r.2.2=0→i0<r.2.1∧r.2.1≤l.length∧r.1.length≤4 * l.length)): ∀(k:Nat) (s:List UInt8) (i:Int),0≤i→i0<i→i≤l.length→(l.length:Int)<k+i→(s.length:Int)≤4 * i→
    Ok (Er N l k2 k s i) (fun r=>r.2.2=0→i0<r.2.1∧r.2.1≤l.length∧r.1.length≤4 * l.length)
  |0,s,i,_,_,_,h,_=>by omega
  | k+1,s,i,h0,hi,h1,h,hs=>by
    rw[Er]
    refine Ok.ite (fun hc=>?_) (fun _=>hk)
    simp only[decide_eq_true_eq]at hc
    refine Ok.bind (Ok.idx h0 hc) fun x _=>?_
    rw[AR (n:=i+1) (by omega)]
    refine Ok.ite (fun _=>Ok.ret (fun _=>⟨by simp only[];omega,by simp only[];omega,by simp only[];omega⟩)) (fun _=>Ok.ite (fun _=>?_) (fun _=>Ok.ite (fun _=>Ok.ret (by simp)) (fun _=>?_)))
    · refine Ok.bind (ALo l i h0 hc hb hN) fun y hy=>Ok.ite (fun hf=>Ok.ret (fun e=>by simp at hf;exact absurd e hf)) (fun hf=>?_)
      obtain⟨a1,a2,a3⟩:=hy (by simpa using hf)
      exact Ok.grd (by unfold AO;omega) (Rh l hb hN i0 k2 hk k _ _ (by omega) (by omega) a3 (by omega) (by simp;omega))
    · refine Ok.bind (ALg l i h0 hc hb hN) fun y hy=>Ok.ite (fun hf=>Ok.ret (fun e=>by simp at hf;exact absurd e hf)) (fun hf=>?_)
      obtain⟨a1,a2,a3⟩:=hy (by simpa using hf)
      refine Ok.bind (Ok.sub h0 (by omega) a3) fun z hz=>?_
      have hl:=hz.2
      exact Ok.grd (by unfold AO;omega) (Rh l hb hN i0 k2 hk k _ _ (by omega) (by omega) a3 (by omega) (by simp;omega))
theorem AUR (l:List UInt8) (i:Int) (h0:0≤i) (h1:i<l.length) (hb:l.length≤1000000) (hN:l.length+10≤N):Ok (LW N l i) (fun r=>r.2.2=0→i<r.2.1∧r.2.1≤l.length∧r.1.length≤4 * l.length):=by
  unfold LW
  rw[AR (n:=i+1) (by omega)]
  exact Ok.join (Rh l hb (by omega) i _ (Ok.ret (by simp)) N [] (i+1) (by omega) (by omega) (by omega) (by omega) (by simp;omega))
theorem APv (a:Int):Ok (Dn N a) (fun _=>True):=by
  unfold Dn
  refine Ok.ite (fun _=>Ok.ite (fun _=>Ok.ret trivial) (fun _=>?_)) (fun _=>?_)<;>exact Ok.ite (fun _=>Ok.ret trivial) (fun _=>Ok.ret trivial)
theorem U1 (l:List UInt8) (hb:l.length≤1000000) (P:ApiToken×Int×Int→Prop) (j:Int) (hj:0≤j) (k34:Int→Option (ApiToken×Int×Int)) (hk: ∀n,0≤n→j+n≤l.length→Ok (k34 n) P): ∀(k:Nat) (n:Int),0≤n→j+n≤l.length→(l.length:Int)<k+j+n→Ok (FX N l j k34 k n) P
  |0,n,_,_,h=>by omega
  | k+1,n,h0,h1,h=>by
    rw[FX,AR (n:=n+1) (by omega),AR (n:=j+n) (by omega)]
    refine Ok.meet (fun b:Bool=>b=true→j+n<l.length) (fun b hb'=>Ok.ite (fun ht=>U1 l hb P j hj k34 hk k (n+1) (by omega) (by have:=hb' ht;omega) (by omega)) (fun _=>hk n h0 h1)) (fun k39 h39=>?_)
    refine Ok.ite (fun hc=>?_) (fun _=>h39 _ (by simp))
    simp only[decide_eq_true_eq]at hc
    exact Ok.bind (Ok.idx (by omega) hc) fun x _=>Ok.bind (APv _) fun y _=>h39 _ (fun _=>hc)
theorem Td (l:List UInt8) (hb:l.length≤1000000) (P:ApiToken×Int×Int→Prop) (i0:Int) (k6:Int→Option (ApiToken×Int×Int)) (hk: ∀i,i0≤i→i≤l.length→Ok (k6 i) P): ∀(k:Nat) (i:Int),0≤i→i0≤i→i≤l.length→(l.length:Int)<k+i→Ok (FV N l k6 k i) P
  |0,i,_,_,_,h=>by omega
  | k+1,i,h0,hi,h1,h=>by
    rw[FV,AR (n:=i+1) (by omega)]
    refine Ok.meet (fun b:Bool=>b=true→i<l.length) (fun b hb'=>Ok.ite (fun ht=>Td l hb P i0 k6 hk k (i+1) (by omega) (by omega) (by have:=hb' ht;omega) (by omega)) (fun _=>hk i hi h1)) (fun k11 h11=>?_)
    refine Ok.ite (fun hc=>?_) (fun _=>h11 _ (by simp))
    simp only[decide_eq_true_eq]at hc
    refine Ok.bind (Ok.idx h0 hc) fun x _=>?_
    unfold L6
    rw[Vy _ _ (by simp)]
    exact h11 _ (fun _=>hc)
structure TokOK (l:List UInt8) (i:Int) (r:ApiToken×Int×Int):Prop where
  good:r.2.2=0→i≤r.2.1∧r.2.1≤l.length∧r.1.text.length≤4 * l.length∧(r.1.kind≠1→i<r.2.1)
  bad:r.2.2≠0→r.1=ApiToken.mk 0 [] 0
theorem AVQ (l:List UInt8) (i:Int) (h0:0≤i) (h1:i≤l.length) (hb:l.length≤1000000) (hN:l.length+10≤N):Ok (KD N l i) (TokOK l i):=by
  unfold KD
  refine Ok.join (Ok.ite (fun hc=>?_) (fun _=>Ok.ite (fun hc=>?_) (fun _=>?_)))
  · simp only[decide_eq_true_eq]at hc;omega
  · simp only[decide_eq_true_eq]at hc;omega
  · have err: ∀e:Int,TokOK l i (ApiToken.mk 0 [] 0,0,e)→True:=fun _ _=>trivial
    refine Ok.meet (fun j:Int=>i≤j∧j≤l.length) (fun j hj=>?_) (fun k6 h6=>Td l hb _ i k6 (fun j a b=>h6 j ⟨a,b⟩) N i h0 (Int.le_refl _) h1 (by omega))
    refine Ok.ite (fun _=>Ok.ret ⟨fun _=>⟨by simp only[];omega,by simp only[];omega,by simp,by simp⟩,by simp⟩) (fun hne=>?_)
    have hlt:j<l.length:=by
      have:j≠l.length:=by simpa using hne
      omega
    rw[AR (n:=j+1) (by omega)]
    refine Ok.bind (Ok.idx (by omega) hlt) fun x _=>?_
    rw[Vy _ _ (by simp),Option.bind_some]
    refine Ok.ite (fun _=>?_) (fun _=>Ok.ite (fun _=>?_) (fun _=>?_))
    · exact Ok.bind (Ok.sub (by omega) (by omega) (by omega)) fun y hy=>Ok.ret ⟨fun _=>⟨by simp only[];omega,by simp only[];omega,by have:=hy.2;simp only[];omega,fun _=>by simp only[];omega⟩,by simp⟩
    · refine Ok.bind (AUR l j (by omega) hlt hb hN) fun y hy=>Ok.ite (fun hf=>Ok.ret ⟨fun e=>by simp at hf;exact absurd e hf,fun _=>rfl⟩) (fun hf=>?_)
      obtain⟨a1,a2,a3⟩:=hy (by simpa using hf)
      exact Ok.ret ⟨fun _=>⟨by simp only[];omega,a2,a3,fun _=>by simp only[];omega⟩,by simp⟩
    · refine Ok.meet (fun _:Bool=>True) (fun b _=>Ok.ite (fun _=>?_) (fun _=>?_)) (fun k24 h24=>Ok.ite (fun _=>h24 _ trivial) (fun _=>by rw[digit_eq,Option.bind_some];exact h24 _ trivial))
      · refine Ok.bind (Ok.sub (by omega) (by omega) (Int.le_refl _)) fun y hy=>?_
        have hl:=hy.2
        refine Ok.bind (Te y (by omega) (by omega)) fun n hn=>Ok.ite (fun _=>Ok.ret ⟨by simp,fun _=>rfl⟩) (fun hf=>?_)
        have hn0:n≠0:=by simpa using hf
        rw[AR (n:=j+n) (by omega)]
        exact Ok.bind (Ok.sub (by omega) (by omega) (by omega)) fun z hz=>Ok.ret ⟨fun _=>⟨by simp only[];omega,by simp only[];omega,by have:=hz.2;simp only[];omega,fun _=>by simp only[];omega⟩,by simp⟩
      · refine Ok.meet (fun n:Int=>0≤n∧j+n≤l.length) (fun n hn=>?_) (fun k34 h34=>U1 l hb _ j (by omega) k34 (fun n a b=>h34 n ⟨a,b⟩) N 0 (by omega) (by omega) (by omega))
        rw[AR (n:=j+n) (by omega)]
        refine Ok.bind (Ok.sub (by omega) (by omega) (by omega)) fun z hz=>?_
        have hl:=hz.2
        have pos: ∀w:List UInt8,0<w.length→(z==w)=true→0<n:=by
          intro w hw e
          have:z=w:=by simpa using e
          subst this;omega
        refine Ok.meet (fun b:Bool=>b=true→0<n) (fun b hb'=>Ok.ite (fun ht=>?_) (fun _=>Ok.ret ⟨by simp,fun _=>rfl⟩)) (fun k47 h47=>?_)
        · have:=hb' ht
          exact Ok.ret ⟨fun _=>⟨by simp only[];omega,by simp only[];omega,by simp only[];omega,fun _=>by simp only[];omega⟩,by simp⟩
        · exact Ok.ite (fun h=>h47 _ (fun _=>pos _ (by simp) h)) (fun _=>Ok.ite (fun h=>h47 _ (fun _=>pos _ (by simp) h)) (fun _=>h47 _ (fun h=>pos _ (by simp) h)))
end
end Go.VM
namespace Go.VM
def zeroV:ApiValue:=ApiValue.mk 0 [] [] []
def Me:List (List UInt8)→List ApiValue→List UInt8→ApiValue×Bool
  |k::ks,x::xs,key=>if k==key then(x,true)else Me ks xs key
  |_,_,_=>(zeroV,false)
def Au (v:ApiValue) (key:List UInt8):ApiValue×Bool:=if v.kind==7 then Me v.keys v.items key else(zeroV,false)
inductive okB (B:Nat):Nat→ApiValue→Prop
  |mk{d:Nat} (v:ApiValue) (ht:v.text.length≤300 * B) (hk:v.keys.length≤810+100 * B) (hl: ∀k,k∈v.keys→k.length≤300 * B) (hi:v.items.length≤800+100 * B) (h: ∀x,x∈v.items→okB B d x):okB B (d+1) v
abbrev okW:Nat→ApiValue→Prop:=okB 1
section
variable{N B:Nat}
theorem okB.text{d:Nat}{v:ApiValue}:okB B d v→v.text.length≤300 * B|.mk _ h _ _ _ _=>h
theorem okB.keys{d:Nat}{v:ApiValue}:okB B d v→v.keys.length≤810+100 * B|.mk _ _ h _ _ _=>h
theorem okB.items{d:Nat}{v:ApiValue}:okB B d v→v.items.length≤800+100 * B|.mk _ _ _ _ h _=>h
theorem okB.sub{d:Nat}{v:ApiValue}:okB B (d+1) v→ ∀x,x∈v.items→okB B d x|.mk _ _ _ _ _ h=>h
theorem okB.pos{d:Nat}{v:ApiValue}:okB B d v→0<d|.mk _ _ _ _ _ _=>by omega
theorem okW.text{d:Nat}{v:ApiValue} (h:okW d v):v.text.length≤300:=okB.text h
theorem okW.keys{d:Nat}{v:ApiValue} (h:okW d v):v.keys.length≤910:=okB.keys h
theorem okW.items{d:Nat}{v:ApiValue} (h:okW d v):v.items.length≤900:=okB.items h
theorem okW.sub{d:Nat}{v:ApiValue} (h:okW (d+1) v): ∀x,x∈v.items→okW d x:=okB.sub h
theorem okB.mono{d:Nat}{v:ApiValue} (h:okB B d v): ∀e,d≤e→okB B e v:=by
  induction h with
  | mk v ht hk hl hi h ih=>
    intro e he
    obtain⟨e',rfl⟩: ∃e',e=e'+1:=⟨e-1,by omega⟩
    exact .mk v ht hk hl hi fun x hx=>ih x hx e' (by omega)
theorem AEN (v:ApiValue) (key:List UInt8) (k5:Unit→Option (ApiValue×Bool)): ∀(ks:List (List UInt8)) (i:Int),(v.items.length:Int)≤i→Ch N v key k5 ks i=k5 ()
  |[],i,h=>by rw[Ch]
  | x::ks,i,h=>by
    have h3:decide (i<(v.items.length:Int))=false:=by simp;omega
    rw[Ch,AB,h3,AEN v key k5 ks (i+1) (by omega)]
    simp
theorem AFw (v:ApiValue) (key:List UInt8) (k5:Unit→Option (ApiValue×Bool)) (h5:k5 ()=some (zeroV,false)): ∀(ks:List (List UInt8)) (xs xpre:List ApiValue),v.items=xpre++xs→
    Ch N v key k5 ks (xpre.length:Int)=some (if v.kind==7 then Me ks xs key else(zeroV,false))
  | [],xs,xpre,hx=>by
    rw[Ch];simp[h5,Me]
  | x::ks,[],xpre,hx=>by
    have e:Me (x::ks) [] key=(zeroV,false):=by simp[Me]
    rw[AEN v key k5 _ _ (by rw[hx];simp),h5,e];simp
  | x::ks,y::ys,xpre,hx=>by
    have ih:=AFw v key k5 h5 ks ys (xpre++[y]) (by rw[hx];simp)
    rw[Ch,AB,ASN hx,AIM hx,Option.bind_some,OI xpre y,ih,Me]
    cases v.kind==7<;>cases x==key<;>simp
theorem UT (v:ApiValue) (key:List UInt8) (hb:v.keys.length≤900000):FU N v key=some (Au v key):=by
  have:=AFw (N:=N) v key (fun _=>some (zeroV,false)) rfl v.keys v.items [] rfl
  unfold FU Au
  rw[AB,Be (by omega)]
  exact this
theorem Wx (v:ApiValue) (key:List UInt8) (k2:Unit→Option (ApiValue×Bool)): ∀(ks:List (List UInt8)) (i:Int),(v.items.length:Int)≤i→Dw N v key k2 ks i=k2 ()
  |[],i,h=>by rw[Dw]
  | x::ks,i,h=>by
    have h3:decide (i<(v.items.length:Int))=false:=by simp;omega
    rw[Dw,AB,h3,Wx v key k2 ks (i+1) (by omega)]
    simp
theorem Vr (v:ApiValue) (key:List UInt8) (k2:Unit→Option (ApiValue×Bool)) (h5:k2 ()=some (zeroV,false)): ∀(ks:List (List UInt8)) (xs xpre:List ApiValue),v.items=xpre++xs→
    Dw N v key k2 ks (xpre.length:Int)=some (Me ks xs key)
  | [],xs,xpre,hx=>by
    rw[Dw];simp[h5,Me]
  | x::ks,[],xpre,hx=>by
    have e:Me (x::ks) [] key=(zeroV,false):=by simp[Me]
    rw[Wx v key k2 _ _ (by rw[hx];simp),h5,e]
  | x::ks,y::ys,xpre,hx=>by
    have ih:=Vr v key k2 h5 ks ys (xpre++[y]) (by rw[hx];simp)
    rw[Dw,AB,ASN hx,AIM hx,Option.bind_some,OI xpre y,ih,Me]
    cases x==key<;>simp
theorem Ob (v:ApiValue) (key:List UInt8) (hb:v.keys.length≤4611686018427387904):Fq N v key=some (Au v key):=by
  unfold Fq Au
  cases h:(v.kind==7)
  · have:(v.kind !=7)=true:=by simp only[bne,h,Bool.not_false]
    rw[if_pos this];rfl
  · have:(v.kind !=7)=false:=by simp only[bne,h,Bool.not_true]
    rw[this,if_neg (by simp),AB,Be (by omega)]
    exact Vr (N:=N) v key (fun _=>some (zeroV,false)) rfl v.keys v.items [] rfl
theorem AGE: ∀(ks:List (List UInt8)) (xs:List ApiValue) (key:List UInt8),(Me ks xs key).1∈xs∨(Me ks xs key).1=zeroV
  |[],_,_=>.inr rfl
  |_::_,[],_=>.inr rfl
  | k::ks,x::xs,key=>by
    rw[Me]
    split
    · exact .inl (by simp)
    · rcases AGE ks xs key with h|h
      · exact .inl (by simp[h])
      · exact .inr h
theorem ARe (v:ApiValue) (key:List UInt8):(Au v key).1∈v.items∨(Au v key).1=zeroV:=by
  unfold Au;split
  · exact AGE _ _ _
  · exact .inr rfl
inductive okD:Nat→ApiValue→Prop
  |mk{d:Nat} (v:ApiValue) (hk:v.keys.length≤4611686018427387904) (hi:v.items.length≤4611686018427387904) (h: ∀x,x∈v.items→okD d x):okD (d+1) v
theorem okB.dB{d:Nat}{v:ApiValue} (h:okB B d v) (hB:B≤1000):okD d v:=by
  induction h with
  |mk v ht hk hl hi h ih=>exact .mk v (by omega) (by omega) ih
theorem okW.d{d:Nat}{v:ApiValue} (h:okW d v):okD d v:=okB.dB h (by omega)
end
end Go.VM
namespace Go.VM
section
variable{N:Nat}{l:List UInt8}
inductive okT:ApiValue→Prop
  |mk (v:ApiValue) (ht:v.text.length≤100000) (hk:v.keys.length≤900000) (hi:v.items.length≤900000) (h: ∀x,x∈v.items→okT x):okT v
theorem okT.text{v:ApiValue}:okT v→v.text.length≤100000|.mk _ h _ _ _=>h
theorem okT.keys{v:ApiValue}:okT v→v.keys.length≤900000|.mk _ _ h _ _=>h
theorem okT.items{v:ApiValue}:okT v→v.items.length≤900000|.mk _ _ _ h _=>h
theorem okT.sub{v:ApiValue}:okT v→ ∀x,x∈v.items→okT x|.mk _ _ _ _ h=>h
theorem QV:okT zeroV:=.mk _ (by simp[zeroV]) (by simp[zeroV]) (by simp[zeroV]) (by simp[zeroV])
theorem KS{v:ApiValue} (h:okT v) (key:List UInt8):okT (Au v key).1:=by
  rcases ARe v key with e|e
  · exact h.sub _ e
  · rw[e];exact QV
def SA (p:Ref14Parser) (i e:Int):Ref14Parser:=if p.fail==0 then Ref14Parser.mk p.s p.at_ p.nodes e i else p
theorem Hu (p:Ref14Parser) (i e:Int):Aw N p i e=some (SA p i e):=by
  unfold Aw SA;split<;>rfl
theorem Sl (t:ApiToken) (c:List UInt8):Fa N t c=some (t.kind==2&&t.text==c):=by
  unfold Fa;cases t.kind==2<;>simp
structure PI (l:List UInt8) (p:Ref14Parser):Prop where
  s:p.s=l
  lo:0≤p.at_
  hi:p.at_≤l.length
theorem PI.stop{p:Ref14Parser} (h:PI l p) (i e:Int):PI l (SA p i e):=by
  unfold SA;split
  · exact⟨h.s,h.lo,h.hi⟩
  · exact h
theorem KQ (p:Ref14Parser) (i e:Int):(SA p i e).at_=p.at_:=by unfold SA;split<;>rfl
theorem Rm (p:Ref14Parser) (i e:Int) (he:e≠0):(SA p i e).fail≠0:=by
  unfold SA;split
  · exact he
  · rename_i h;simpa using h
structure NX (l:List UInt8) (p:Ref14Parser) (r:ApiToken×Ref14Parser):Prop where
  pi:PI l r.2
  le:p.at_≤r.2.at_
  txt:r.1.text.length≤4 * l.length
  on:r.2.fail=0→p.fail=0∧(r.1.kind≠1→p.at_<r.2.at_)
theorem Iq (hb:l.length≤100000) (hN:l.length+10≤N) (p:Ref14Parser) (h:PI l p):Ok (BA N p) (NX l p):=by
  unfold BA
  refine Ok.ite (fun hf=>Ok.ret ⟨h,Int.le_refl _,by simp,fun e=>by simp at hf;exact absurd e hf⟩) (fun hf=>?_)
  have hf0:p.fail=0:=by simpa using hf
  rw[h.s]
  refine Ok.join (Ok.bind (AVQ l p.at_ h.lo h.hi (by omega) hN) fun y hy=>?_)
  refine Ok.ite (fun he=>?_) (fun he=>?_)
  · rw[Hu,Option.bind_some]
    have he':y.2.2≠0:=by simpa using he
    exact Ok.ret ⟨h.stop _ _,by rw[KQ];exact Int.le_refl _,by simp,fun e=>absurd e (Rm _ _ _ he')⟩
  · obtain⟨a1,a2,a3,a4⟩:=hy.good (by simpa using he)
    exact Ok.ret ⟨⟨rfl,by have:=h.lo;simp only[];omega,a2⟩,a1,a3,fun _=>⟨hf0,a4⟩⟩
structure VR (l:List UInt8) (p:Ref14Parser) (r:ApiValue×Ref14Parser):Prop where
  v:okT r.1
  pi:PI l r.2
  le:p.at_≤r.2.at_
def left (l:List UInt8) (p:Ref14Parser):Nat:=if p.fail=0 then l.length-p.at_.toNat+2 else 1
theorem QU (p:Ref14Parser):1≤left l p:=by unfold left;split<;>omega
theorem WU{p q:Ref14Parser} (hp:PI l p) (hf:p.fail=0) (hq:PI l q) (h:q.fail=0→p.at_<q.at_):left l q+1≤left l p:=by
  have:=hp.lo;have:=hp.hi;have:=hq.hi
  unfold left
  rw[if_pos hf]
  split
  · rename_i e;have:=h e;omega
  · omega
theorem AJs{items:List ApiValue} (kind:Int) (hl:items.length≤900000) (h: ∀x,x∈items→okT x):okT (ApiValue.mk kind [] [] items):=.mk _ (by simp) (by simp) hl h
theorem AGo (hb:l.length≤100000) (hN:l.length+10≤N) (d:Int) (rc:Ref14Parser→ApiToken→Int→Option (ApiValue×Ref14Parser)) (hrc: ∀p t,PI l p→t.text.length≤4 * l.length→Ok (rc p t d) (VR l p)) (p0:Ref14Parser): ∀(k:Nat) (t:ApiToken) (items:List ApiValue) (p:Ref14Parser),PI l p→p0.at_≤p.at_→t.text.length≤4 * l.length→(∀x,x∈items→okT x)→left l p≤k→items.length+left l p≤200000→
    Ok (CO N d rc (fun j5=>some (ApiValue.mk 6 [] [] j5.2.1,j5.2.2)) k t items p) (VR l p0)
  |0,t,items,p,_,_,_,_,h,_=>by have:=QU (l:=l) p;omega
  | k+1,t,items,p,hp,hle,ht,hi,hk,hB=>by
    rw[CO]
    have hpos:=QU (l:=l) p
    refine Ok.ite (fun hf=>?_) (fun _=>Ok.ret ⟨AJs _ (by simp only[];omega) hi,hp,hle⟩)
    have hf0:p.fail=0:=by simpa using hf
    refine Ok.join (Ok.bind (hrc p t hp ht) fun y14 h14=>Ok.grd (Po (by omega) (by omega)) ?_)
    refine Ok.bind (Iq hb hN y14.2 h14.pi) fun y16 h16=>?_
    rw[Sl,Option.bind_some]
    have hitems: ∀x,x∈items++[y14.1]→okT x:=fun x hx=>by
      rcases List.mem_append.1 hx with hx|hx
      · exact hi x hx
      · simp at hx;rw[hx];exact h14.v
    have a1:=h14.le;have a2:=h16.le
    refine Ok.ite (fun _=>Ok.ret ⟨AJs _ (by simp;omega) hitems,h16.pi,by simp only[];omega⟩) (fun _=>?_)
    refine Ok.meet (fun j:Ref14Parser=>PI l j∧p.at_≤j.at_∧(j.fail=0→p.at_<j.at_)) (fun j hj=>?_) (fun k21 h21=>?_)
    · refine Ok.bind (Iq hb hN j hj.1) fun y32 h32=>?_
      have a3:=h32.le
      have hl:=WU hp hf0 h32.pi (fun e=>by have:=hj.2.2 (h32.on e).1;omega)
      exact AGo hb hN d rc hrc p0 k y32.1 _ y32.2 h32.pi (by omega) h32.txt hitems (by omega) (by simp;omega)
    · refine Ok.meet (fun b:Bool=>b=false→y16.2.fail=0→p.at_<y16.2.at_) (fun b hb'=>?_) (fun k25 h25=>?_)
      · refine Ok.ite (fun _=>?_) (fun hf=>h21 _ ⟨h16.pi,by omega,hb' hf⟩)
        rw[Hu,Option.bind_some]
        exact h21 _ ⟨h16.pi.stop _ _,by rw[KQ];omega,fun e=>absurd e (Rm _ _ _ (by decide))⟩
      · refine Ok.ite (fun hz=>?_) (fun hz=>h25 _ (fun _ e=>by simp[e]at hz))
        rw[Sl,Option.bind_some]
        refine h25 _ (fun hc e=>?_)
        have hk2:y16.1.kind=2:=by
          simp only[Bool.not_eq_false',Bool.and_eq_true,beq_iff_eq]at hc
          exact hc.1
        have:=(h16.on e).2 (by rw[hk2];decide)
        omega
theorem ADB (hb:l.length≤100000) (hN:l.length+10≤N) (d:Int) (rc:Ref14Parser→ApiToken→Int→Option (ApiValue×Ref14Parser)) (hrc: ∀p t,PI l p→t.text.length≤4 * l.length→Ok (rc p t d) (VR l p)) (p0:Ref14Parser): ∀(k:Nat) (t:ApiToken) (keys:List (List UInt8)) (items:List ApiValue) (p:Ref14Parser),PI l p→p0.at_≤p.at_→t.text.length≤4 * l.length→(∀x,x∈items→okT x)→left l p≤k→items.length+left l p≤200000→keys.length=items.length→
    Ok (Bq N d rc (fun j5=>some (ApiValue.mk 7 [] j5.2.1 j5.2.2.1,j5.2.2.2)) k t keys items p) (VR l p0)
  |0,t,keys,items,p,_,_,_,_,h,_,_=>by have:=QU (l:=l) p;omega
  | k + 1, t, keys,items,p,hp,hle,ht,hi,hk,hB,hkl=>by
    rw[Bq]
    have hpos:=QU (l:=l) p
    have okO: ∀(ks:List (List UInt8)) (xs:List ApiValue),ks.length≤900000→xs.length≤900000→(∀x,x∈xs→okT x)→okT (ApiValue.mk 7 [] ks xs):=fun ks xs h1 h2 h3=>.mk _ (by simp) h1 h2 h3
    refine Ok.ite (fun hf=>?_) (fun _=>Ok.ret ⟨okO _ _ (by simp only[];omega) (by simp only[];omega) hi,hp,hle⟩)
    have hf0:p.fail=0:=by simpa using hf
    refine Ok.meet (fun j:Ref14Parser=>PI l j∧p.at_≤j.at_) (fun j10 h10=>?_) (fun k11 h11=>?_)
    · refine Ok.meet (fun j:Ref14Parser=>PI l j∧p.at_≤j.at_) (fun j16 h16=>?_) (fun k17 h17=>?_)
      · refine Ok.meet (fun j:ApiToken×Ref14Parser=>PI l j.2∧p.at_≤j.2.at_) (fun j24 h24=>?_) (fun k25 h25=>?_)
        · refine Ok.bind (Iq hb hN j24.2 h24.1) fun y38 h38=>?_
          refine Ok.bind (hrc y38.2 y38.1 h38.pi h38.txt) fun y40 h40=>Ok.grd (Po (by omega) (by omega)) (Ok.grd (Po (by omega) (by omega)) ?_)
          refine Ok.bind (Iq hb hN y40.2 h40.pi) fun y42 h42=>?_
          rw[Sl,Option.bind_some]
          have hitems: ∀x,x∈items++[y40.1]→okT x:=fun x hx=>by
            rcases List.mem_append.1 hx with hx|hx
            · exact hi x hx
            · simp at hx;rw[hx];exact h40.v
          have a0:=h24.2;have a1:=h38.le;have a2:=h40.le;have a3:=h42.le
          refine Ok.ite (fun _=>Ok.ret ⟨okO _ _ (by simp;omega) (by simp;omega) hitems,h42.pi,by simp only[];omega⟩) (fun _=>?_)
          refine Ok.meet (fun j:Ref14Parser=>PI l j∧p.at_≤j.at_∧(j.fail=0→p.at_<j.at_)) (fun j hj=>?_) (fun k47 h47=>?_)
          · refine Ok.bind (Iq hb hN j hj.1) fun y58 h58=>?_
            have a4:=h58.le
            have hl:=WU hp hf0 h58.pi (fun e=>by have:=hj.2.2 (h58.on e).1;omega)
            exact ADB hb hN d rc hrc p0 k y58.1 _ _ y58.2 h58.pi (by omega) h58.txt hitems (by omega) (by simp;omega) (by simp;omega)
          · refine Ok.meet (fun b:Bool=>b=false→y42.2.fail=0→p.at_<y42.2.at_) (fun b hb'=>?_) (fun k51 h51=>?_)
            · refine Ok.ite (fun _=>?_) (fun hf=>h47 _ ⟨h42.pi,by omega,hb' hf⟩)
              rw[Hu,Option.bind_some]
              exact h47 _ ⟨h42.pi.stop _ _,by rw[KQ];omega,fun e=>absurd e (Rm _ _ _ (by decide))⟩
            · refine Ok.ite (fun hz=>?_) (fun hz=>h51 _ (fun _ e=>by simp[e]at hz))
              rw[Sl,Option.bind_some]
              refine h51 _ (fun hc e=>?_)
              have hk2:y42.1.kind=2:=by
                simp only[Bool.not_eq_false',Bool.and_eq_true,beq_iff_eq]at hc
                exact hc.1
              have:=(h42.on e).2 (by rw[hk2];decide)
              omega
        · refine Ok.bind (Iq hb hN j16 h16.1) fun y28 h28=>?_
          have a1:=h28.le;have a2:=h16.2
          refine Ok.meet (fun _:Bool=>True) (fun b _=>Ok.ite (fun _=>?_) (fun _=>h25 _ ⟨h28.pi,by simp only[];omega⟩)) (fun k31 h31=>Ok.ite (fun _=>by rw[Sl,Option.bind_some];exact h31 _ trivial) (fun _=>h31 _ trivial))
          rw[Hu,Option.bind_some]
          exact h25 _ ⟨h28.pi.stop _ _,by simp only[KQ];omega⟩
      · rw[Ob _ _ (by simp only[];omega),Option.bind_some]
        refine Ok.ite (fun _=>?_) (fun _=>h17 _ h10)
        rw[Hu,Option.bind_some]
        exact h17 _ ⟨h10.1.stop _ _,by rw[KQ];exact h10.2⟩
    · refine Ok.ite (fun _=>?_) (fun _=>h11 _ ⟨hp,Int.le_refl _⟩)
      rw[Hu,Option.bind_some]
      exact h11 _ ⟨hp.stop _ _,by rw[KQ];exact Int.le_refl _⟩
theorem AWf (t:List UInt8):Ok (LP N t) (fun _=>True):=by
  unfold LP
  exact Ok.ite (fun _=>Ok.ret trivial) (fun _=>Ok.ite (fun _=>Ok.ret trivial) (fun _=>Ok.ret trivial))
theorem WT (hb:l.length≤10000) (hN:4 * l.length+1000≤N): ∀D:Nat,
    (∀(p:Ref14Parser) (t:ApiToken) (d:Int),PI l p→t.text.length≤4 * l.length→0≤d→d≤64→2 * (64-d)+2≤D→Ok (Bf N D p t d) (VR l p))∧
    (∀(p:Ref14Parser) (d:Int),PI l p→0≤d→d≤64→2 * (64-d)+3≤D→Ok (EA N D p d) (VR l p))∧
    (∀(p:Ref14Parser) (d:Int),PI l p→0≤d→d≤64→2 * (64-d)+3≤D→Ok (Dj N D p d) (VR l p))
  |0=>⟨fun p t d _ _ _ _ h=>by omega,fun p d _ _ _ h=>by omega,fun p d _ _ _ h=>by omega⟩
  | D+1=>by
    obtain⟨ihv,iha,iho⟩:=WT hb hN D
    have hleft: ∀q:Ref14Parser,left l q≤l.length+2:=fun q=>by unfold left;split<;>omega
    refine⟨fun p t d hp ht h0 h64 hD=>?_,fun p d hp h0 h64 hD=>?_,fun p d hp h0 h64 hD=>?_⟩
    · rw [Bf]
      simp only[Sl,Option.bind_some]
      have z: ∀q,PI l q→p.at_≤q.at_→Ok (some (ApiValue.mk 0 [] [] [],q)) (VR l p):=fun q h1 h2=>Ok.ret ⟨QV,h1,h2⟩
      refine Ok.meet (fun _:Bool=>True) (fun b _=>?_) (fun k2 h2=>?_)
      · refine Ok.ite (fun _=>z p hp (Int.le_refl _)) (fun _=>Ok.ite (fun _=>?_) (fun _=>?_))
        · refine Ok.meet (fun b:Bool=>b=false→t.kind=2→d<64) (fun b hb'=>?_) (fun k10 h10=>?_)
          · refine Ok.ite (fun _=>?_) (fun hf=>?_)
            · rw[Hu,Option.bind_some]
              exact z _ (hp.stop _ _) (by rw[KQ];exact Int.le_refl _)
            · have hd:=hb' hf
              refine Ok.meet (fun j:Int×List UInt8×Ref14Parser=>PI l j.2.2∧p.at_≤j.2.2.at_∧j.2.1.length≤100000) (fun j hj=>?_) (fun k16 h16=>?_)
              · refine Ok.meet (fun q:List UInt8×Int×Int×Int×Int=>PI l (Ref14Parser.mk q.1 q.2.1 q.2.2.1 q.2.2.2.1 q.2.2.2.2)∧p.at_≤q.2.1) (fun q hq=>?_) (fun k28 h28=>?_)
                · refine Ok.ite (fun _=>Ok.bind (AWf _) fun y _=>Ok.ret ⟨.mk _ (by simp) (by simp) (by simp) (by simp),hq.1,hq.2⟩) (fun _=>?_)
                  refine Ok.ite (fun hc=>?_) (fun _=>Ok.ite (fun hc=>?_) (fun _=>Ok.ret ⟨.mk _ hj.2.2 (by simp) (by simp) (by simp),hq.1,hq.2⟩))
                  · have hk:t.kind=2:=by simp only[Bool.and_eq_true,beq_iff_eq]at hc;exact hc.1
                    have:=hd hk
                    rw[AR (n:=d+1) (by omega)]
                    refine Ok.bind (iha _ (d+1) hq.1 (by omega) (by omega) (by omega)) fun y hy=>Ok.ret ⟨hy.v,hy.pi,?_⟩
                    exact Int.le_trans hq.2 hy.le
                  · have hk:t.kind=2:=by simp only[Bool.and_eq_true,beq_iff_eq]at hc;exact hc.1
                    have:=hd hk
                    rw[AR (n:=d+1) (by omega)]
                    refine Ok.bind (iho _ (d+1) hq.1 (by omega) (by omega) (by omega)) fun y hy=>Ok.ret ⟨hy.v,hy.pi,?_⟩
                    exact Int.le_trans hq.2 hy.le
                · have hm:PI l (Ref14Parser.mk j.2.2.s j.2.2.at_ (wr .i64 (j.2.2.nodes+1)) j.2.2.fail j.2.2.where_):=⟨hj.1.s,hj.1.lo,hj.1.hi⟩
                  refine Ok.ite (fun _=>?_) (fun _=>h28 _ ⟨hm,hj.2.1⟩)
                  rw[Hu,Option.bind_some]
                  exact h28 _ ⟨hm.stop _ _,by simp only[KQ];exact hj.2.1⟩
              · refine Ok.ite (fun _=>?_) (fun _=>h16 _ ⟨hp,Int.le_refl _,by dsimp only;omega⟩)
                refine Ok.bind (AK8 t.text (by omega) (by omega)) fun y hy=>?_
                refine Ok.join (Ok.ite (fun _=>?_) (fun _=>h16 _ ⟨hp,Int.le_refl _,by dsimp only;omega⟩))
                rw[Hu,Option.bind_some]
                exact h16 _ ⟨hp.stop _ _,by simp only[KQ];exact Int.le_refl _,by dsimp only;omega⟩
          · refine Ok.ite (fun _=>h10 _ (fun hf _=>?_)) (fun hk=>h10 _ (fun _ h=>by simp[h]at hk))
            have:d≠64:=by simpa using hf
            omega
        · rw[Hu,Option.bind_some]
          exact z _ (hp.stop _ _) (by rw[KQ];exact Int.le_refl _)
      · refine Ok.ite (fun _=>h2 _ trivial) (fun _=>Ok.ite (fun _=>h2 _ trivial) (fun _=>Ok.ite (fun _=>h2 _ trivial) (fun _=>Ok.ite (fun _=>h2 _ trivial) (fun _=>h2 _ trivial))))
    · rw[EA]
      refine Ok.bind (Iq (by omega) (by omega) p hp) fun y1 h1=>?_
      rw[Sl,Option.bind_some]
      refine Ok.ite (fun _=>Ok.ret ⟨.mk _ (by simp) (by simp) (by simp) (by simp),h1.pi,h1.le⟩) (fun _=>?_)
      have:=hleft y1.2
      exact Ok.join (AGo (by omega) (by omega) d (Bf N D) (fun q t hq ht=>ihv q t d hq ht h0 h64 (by omega)) p N y1.1 [] y1.2 h1.pi h1.le h1.txt (by simp) (by omega) (by simp;omega))
    · rw[Dj]
      refine Ok.bind (Iq (by omega) (by omega) p hp) fun y1 h1=>?_
      rw[Sl,Option.bind_some]
      refine Ok.ite (fun _=>Ok.ret ⟨.mk _ (by simp) (by simp) (by simp) (by simp),h1.pi,h1.le⟩) (fun _=>?_)
      have:=hleft y1.2
      exact Ok.join (ADB (by omega) (by omega) d (Bf N D) (fun q t hq ht=>ihv q t d hq ht h0 h64 (by omega)) p N y1.1 [] [] y1.2 h1.pi h1.le h1.txt (by simp) (by omega) (by simp;omega) rfl)
theorem AFG (hb:l.length≤10000) (hN:4 * l.length+1000≤N):Ok (Ht N l) (fun r=>okT r.1∧(r.2.2≠0→r.1=zeroV)):=by
  unfold Ht
  refine Ok.ite (fun _=>Ok.ret ⟨QV,fun _=>rfl⟩) (fun _=>?_)
  have h0:PI l (Ref14Parser.mk l 0 0 0 0):=⟨rfl,Int.le_refl _,by simp only[];omega⟩
  refine Ok.bind (Iq (by omega) (by omega) _ h0) fun y1 h1=>?_
  refine Ok.bind ((WT hb hN N).1 y1.2 y1.1 0 h1.pi h1.txt (by omega) (by omega) (by omega)) fun y3 h3=>?_
  refine Ok.join (Ok.bind (Iq (by omega) (by omega) y3.2 h3.pi) fun y9 h9=>?_)
  have fin: ∀p:Ref14Parser,Ok (if(p.fail !=0)=true then some (ApiValue.mk 0 [] [] [],p.where_,p.fail)else some (y3.1,(l.length:Int),0)) (fun r=>okT r.1∧(r.2.2≠0→r.1=zeroV)):=fun p=>Ok.ite (fun _=>Ok.ret ⟨QV,fun _=>rfl⟩) (fun _=>Ok.ret ⟨h3.v,by simp⟩)
  refine Ok.join (Ok.ite (fun _=>Ok.ite (fun _=>?_) (fun _=>fin _)) (fun _=>Ok.ite (fun h=>by cases h) (fun _=>fin _)))
  rw[Hu,Option.bind_some]
  exact fin _
end
end Go.VM
