import Derived.Test.YtjgdhjpafjpjgaaGreatDoorL1
set_option linter.unusedVariables false
set_option linter.unusedSimpArgs false
namespace Go.VM
section
variable{N:Nat}
def preB (p l:List UInt8):Bool:=if p.length≤l.length then l.take p.length==p else false
theorem ANl (p l:List UInt8):BB N l p=some (preB p l):=by
  unfold BB preB
  by_cases h:p.length≤l.length
  · rw[if_pos (by simp;omega),if_pos h,show(0:Int)=((0:Nat):Int)from rfl,CR l 0 _ (Nat.zero_le _) h,Option.bind_some];simp
  · rw[if_neg (by simp;omega),if_neg h]
theorem Rm (p l:List UInt8):strings_HasPrefix N l p=some (preB p l):=by
  unfold strings_HasPrefix;rw[ANl];rfl
theorem Ns (p l:List UInt8):Dy N l p=some (preB p l):=by
  unfold Dy preB
  by_cases h:p.length≤l.length
  · rw[if_pos (by simp;omega),if_pos h,show(0:Int)=((0:Nat):Int)from rfl,CR l 0 _ (Nat.zero_le _) h,Option.bind_some];simp
  · rw[if_neg (by simp;omega),if_neg h]
theorem Rn{p l:List UInt8} (h:preB p l=true): ∃t,l=p++t:=by
  unfold preB at h
  split at h
  · have:=beq_iff_eq.1 h
    exact⟨l.drop p.length,by conv=>lhs;rw[←List.take_append_drop p.length l,this]⟩
  · cases h
theorem BZ{l:List UInt8}{n:Nat} (h:n≤l.length):sub l (n:Int) (l.length:Int)=some (l.drop n):=by
  rw[CR l n l.length h (Nat.le_refl _),List.take_of_length_le (by simp)]
theorem ACy (p l:List UInt8):strings_TrimPrefix N l p=some (if preB p l=true then l.drop p.length else l):=by
  unfold strings_TrimPrefix Cb
  rw[ANl,Option.bind_some]
  by_cases h:preB p l=true
  · obtain⟨t,rfl⟩:=Rn h
    rw[if_pos h,if_pos h,BZ (by simp),Option.bind_some,Option.bind_some]
  · rw[if_neg h,if_neg h];rfl
theorem AH0 (p l:List UInt8):strings_CutPrefix N l p=some (if preB p l=true then(l.drop p.length,true)else(l,false)):=by
  unfold strings_CutPrefix Cq
  rw[ANl,Option.bind_some]
  by_cases h:preB p l=true
  · obtain⟨t,rfl⟩:=Rn h
    rw[if_pos h,if_pos h,BZ (by simp),Option.bind_some,Option.bind_some]
  · rw[if_neg h,if_neg h];rfl
def Mq (l:List UInt8):Nat→Option Nat
  |0=>none
  |n+1=>if l[n]?=some 47 then some n else Mq l n
theorem SK{l:List UInt8}{i:Nat}: ∀ {n:Nat},Mq l n=some i→i<n
  |0,h=>by cases h
  | n+1,h=>by
    rw[Mq]at h
    split at h
    · cases h;omega
    · have:=SK h;omega
theorem b47 (c:UInt8):(AJ c==47)=decide (c=47):=by
  have:=Ba (f:=fun n=>((n:Int)==47)) (g:=fun n=>decide (UInt8.ofNat n=47)) (by kernel_rfl) c
  simp only[UInt8.ofNat_toNat]at this
  exact this
theorem Ur{l:List UInt8} (hb:l.length≤1000000): ∀(n k:Nat),n≤l.length→n<k→
    Ad N l 47 (fun _=>some (-1)) k ((n:Int)-1)=some (match Mq l n with|some i=>(i:Int)|none=> -1)
  |n,0,_,h=>by omega
  |0,k+1,_,_=>by rw[Ad,if_neg (by decide)];rfl
  | n+1,k+1,hn,hk=>by
    rw[Ad,if_pos (by simp),show((n+1:Nat):Int)-1=(n:Int) by omega,Io,List.getElem?_eq_getElem (by omega),Option.bind_some,b47,Mq,List.getElem?_eq_getElem (by omega)]
    by_cases h:l[n]=47
    · rw[decide_eq_true h,if_pos rfl,if_pos (by rw[h])]
    · rw[decide_eq_false h,if_neg (by decide),if_neg (by simpa using h),BF (by omega)]
      exact Ur hb n k (by omega) (by omega)
theorem AJG (l:List UInt8) (hb:l.length≤1000000) (hN:l.length<N):strings_LastIndexByte N l 47=some (match Mq l l.length with|some i=>(i:Int)|none=> -1):=by
  unfold strings_LastIndexByte Bi
  rw[AL,BF (by omega),Ur hb l.length N (Nat.le_refl _) hN];rfl
def GM (l:List UInt8):List UInt8:=match Mq l l.length with|some i=>l.take i|none=>[]
theorem R8{l:List UInt8} (hb:l.length≤1000000): ∀(n k:Nat),n≤l.length→n<k→
    Dh N l (fun _=>some []) k ((n:Int)-1)=some (match Mq l n with|some i=>l.take i|none=>[])
  |n,0,_,h=>by omega
  |0,k+1,_,_=>by rw[Dh,if_neg (by decide)];rfl
  | n+1,k+1,hn,hk=>by
    rw[Dh,if_pos (by simp),show((n+1:Nat):Int)-1=(n:Int) by omega,Io,List.getElem?_eq_getElem (by omega),Option.bind_some,b47,Mq,List.getElem?_eq_getElem (by omega)]
    by_cases h:l[n]=47
    · rw[decide_eq_true h,if_pos rfl,if_pos (by rw[h]),show(0:Int)=((0:Nat):Int)from rfl,CR l 0 n (Nat.zero_le _) (by omega),Option.bind_some];simp
    · rw[decide_eq_false h,if_neg (by decide),if_neg (by simpa using h),BF (by omega)]
      exact R8 hb n k (by omega) (by omega)
theorem VK (l:List UInt8) (hb:l.length≤1000000) (hN:l.length<N):GK N l=some (GM l):=by
  unfold GK GM
  rw[AL,BF (by omega),R8 hb l.length N (Nat.le_refl _) hN]
def JO (s:List UInt8):Nat:=1+((s.drop 1).takeWhile (· !=47)).length
def Hr:Nat→List UInt8→List UInt8→List UInt8
  |0,_,_=>[]
  | k+1,s,out=>
    if s=[]then out
    else if preB [46,46,47] s=true then Hr k (s.drop 3) out
    else if preB [46,47] s=true then Hr k (s.drop 2) out
    else if preB [47,46,47] s=true then Hr k (s.drop 2) out
    else if s=[47,46]then Hr k [47] out
    else if preB [47,46,46,47] s=true then Hr k (s.drop 3) (GM out)
    else if s=[47,46,46]then Hr k [47] (GM out)
    else if s=[46]∨s=[46,46]then Hr k [] out
    else Hr k (s.drop (JO s)) (out++s.take (JO s))
theorem Nu (l:List UInt8):(GM l).length≤l.length:=by
  unfold GM;split<;>simp<;>omega
theorem ALn{s:List UInt8} (h:s≠ []):JO s≤s.length:=by
  cases s with
  |nil=>exact absurd rfl h
  |cons c t=>unfold JO;have:=Lu (· !=(47:UInt8)) t;simp only[List.drop_one,List.tail_cons,List.length_cons];omega
theorem KE{p l:List UInt8} (h:preB p l=true):p.length≤l.length:=by
  obtain⟨t,rfl⟩:=Rn h;simp
theorem G7 (hN:20000≤N) (k2:List UInt8→Option (List UInt8)): ∀(k:Nat) (s out:List UInt8),s.length<k→s.length+out.length≤16400→Al N k2 k s out=k2 (Hr k s out)
  |0,s,out,h,_=>by omega
  | k + 1, s,out,hk,hb=>by
    rw[Al,Hr]
    by_cases h0:s=[]
    · rw[if_pos (by simpa using h0),if_pos h0]
    have hpos:0<s.length:=List.length_pos_iff.2 h0
    have hso:=Nu out
    rw[if_neg (by simpa using h0),if_neg h0,Ns,Option.bind_some]
    by_cases h1:preB [46,46,47] s=true
    · have:=KE h1;simp only[List.length_cons,List.length_nil]at this
      rw[if_pos h1,if_pos h1,show(3:Int)=((3:Nat):Int)from rfl,BZ (by omega),Option.bind_some]
      exact G7 hN k2 k _ out (by simp;omega) (by simp;omega)
    rw[if_neg h1,if_neg h1,Ns,Option.bind_some]
    by_cases h2:preB [46,47] s=true
    · have:=KE h2;simp only[List.length_cons,List.length_nil]at this
      rw[if_pos h2,if_pos h2,show(2:Int)=((2:Nat):Int)from rfl,BZ (by omega),Option.bind_some]
      exact G7 hN k2 k _ out (by simp;omega) (by simp;omega)
    rw[if_neg h2,if_neg h2,Ns,Option.bind_some]
    by_cases h3:preB [47,46,47] s=true
    · have:=KE h3;simp only[List.length_cons,List.length_nil]at this
      rw[if_pos h3,if_pos h3,show(2:Int)=((2:Nat):Int)from rfl,BZ (by omega),Option.bind_some]
      exact G7 hN k2 k _ out (by simp;omega) (by simp;omega)
    rw[if_neg h3,if_neg h3]
    by_cases h4:s=[47,46]
    · rw[if_pos (by simpa using h4),if_pos h4]
      have:=congrArg List.length h4;simp only[List.length_cons,List.length_nil]at this
      exact G7 hN k2 k _ out (by simp;omega) (by simp;omega)
    rw[if_neg (by simpa using h4),if_neg h4,Ns,Option.bind_some]
    by_cases h5:preB [47,46,46,47] s=true
    · have:=KE h5;simp only[List.length_cons,List.length_nil]at this
      rw[if_pos h5,if_pos h5,show(3:Int)=((3:Nat):Int)from rfl,BZ (by omega),Option.bind_some,VK out (by omega) (by omega),Option.bind_some]
      exact G7 hN k2 k _ _ (by simp;omega) (by simp;omega)
    rw[if_neg h5,if_neg h5]
    by_cases h6:s=[47,46,46]
    · rw[if_pos (by simpa using h6),if_pos h6,VK out (by omega) (by omega),Option.bind_some]
      have:=congrArg List.length h6;simp only[List.length_cons,List.length_nil]at this
      exact G7 hN k2 k _ _ (by simp;omega) (by simp;omega)
    rw[if_neg (by simpa using h6),if_neg h6]
    dsimp only[AL]
    have hdd:(if(s==([46]:List UInt8))=true then Al N k2 k [] out else if(s==([46,46]:List UInt8))=true then Al N k2 k [] out else Option.bind (sub s 1 (s.length:Int)) fun x26=>
           Option.bind (BR N x26 ([47]:List UInt8)) fun y27=>
           Option.bind (sub s (wr .i64 (1+y27)) (s.length:Int)) fun x29=>
           Option.bind (sub s 0 (wr .i64 (1+y27))) fun x30=>
           grd (AX (out.length+x30.length)) (
           Al N k2 k x29 (out++x30)))=k2 (if s=[46]∨s=[46,46]then Hr k [] out else Hr k (s.drop (JO s)) (out++s.take (JO s))):=by
      have hrec:=G7 hN k2 k [] out (by simp;omega) (by simp;omega)
      by_cases h7:s=[46]
      · rw[if_pos (by simpa using h7),if_pos (.inl h7)];exact hrec
      by_cases h8:s=[46,46]
      · rw[if_neg (by simpa using h7),if_pos (by simpa using h8),if_pos (.inr h8)];exact hrec
      have hw:(fun c:UInt8=>!([47]:List UInt8).contains c)=(fun c=>c !=47):=by funext c;simp[bne];rfl
      have hsl:=ALn h0
      rw[if_neg (by simpa using h7),if_neg (by simpa using h8),if_neg (by rintro(h|h);exact h7 h;exact h8 h),show(1:Int)=((1:Nat):Int)from rfl,BZ (by omega),Option.bind_some,IR _ [47] (by decide) (by simp;omega),Option.bind_some,hw]
      have e:wr .i64 (((1:Nat):Int)+(((s.drop 1).takeWhile (fun c=>c !=47)).length:Int))=((JO s:Nat):Int):=by
        unfold JO at hsl⊢;rw[BF (by omega)];omega
      rw[e,BZ hsl,Option.bind_some,show(0:Int)=((0:Nat):Int)from rfl,CR s 0 _ (Nat.zero_le _) hsl,Option.bind_some,BP (by simp;omega),List.drop_zero,Nat.sub_zero]
      have h1s:1≤JO s:=by unfold JO;omega
      exact G7 hN k2 k _ _ (by simp;omega) (by simp;omega)
    by_cases h7:(s==([46]:List UInt8))=true
    · rw[if_pos h7]at hdd⊢;rw[if_pos rfl];exact hdd
    · rw[if_neg h7]at hdd⊢;exact hdd
theorem APb (s:List UInt8) (hN:20000≤N) (hb:s.length≤16400):Eg N s=some (Hr N s []):=by
  unfold Eg
  rw[AL,G7 hN _ N s [] (by omega) (by simpa using hb)]
end
end Go.VM
namespace Go.VM
section
variable{N:Nat}
theorem SB (k2:Unit→Option Bool): ∀l:List UInt8,Ap N k2 l=if l.all Ep=true then k2 ()else some false
  |[]=>by rw[Ap];rfl
  | c::l=>by
    rw[Ap,Ph,Option.bind_some,SB k2 l]
    cases h:Ep c<;>simp[h]
theorem TN (l:List UInt8) (hb:l.length≤2^60):Gr N l=some (!l.isEmpty&&l.all Ep):=by
  unfold Gr Dx
  cases l with
  |nil=>rfl
  | cons c l=>
    rw[if_neg (by exact Bool.false_ne_true),AL,BP (by omega),SB]
    cases h:(c::l).all Ep<;>simp
theorem PX (k2:Unit→Option Bool): ∀l:List UInt8,Ch N k2 l=if l.all Ep=true then k2 ()else some false
  |[]=>by rw[Ch];rfl
  | c::l=>by
    rw[Ch,Nt,Option.bind_some,PX k2 l]
    cases h:Ep c<;>simp[h]
theorem AGX (l:List UInt8) (hb:l.length≤2^60):I6 N l=some (!l.isEmpty&&l.all Ep):=by
  unfold I6
  rw[AL,BP (by omega),PX]
  cases l with
  |nil=>rfl
  |cons c l=>cases h:(c::l).all Ep<;>simp
theorem ARi (k2:Unit→Option (Int×Int)): ∀l:List UInt8,C9 N 10 k2 l=if l.all Ep=true then k2 ()else some (0,1)
  |[]=>by rw[C9];rfl
  | c::l=>by
    rw[C9,AL,show((10:Int)==10)=true from rfl,show((10:Int)==16)=false from rfl,if_pos rfl,Nt,Option.bind_some,ARi k2 l]
    cases h:Ep c<;>simp[h]
theorem ARl{m:Nat} (hm:m≤2^59) (hm9:9≤m) (k9:Int→Option (Int×Int)): ∀(l:List UInt8) (n:Nat),l.all Ep=true→n≤m→Cy N 10 (m:Int) k9 l (n:Int)=if HY n l≤m then k9 ((HY n l:Nat):Int)else some (0,4)
  |[],n,_,hn=>by rw[Cy,HY,if_pos hn]
  | c::l,n,h,hn=>by
    simp only[List.all_cons,Bool.and_eq_true]at h
    have hr:=AAS h.1
    have hd:Ht c.toNat≤9:=by rw[(Rj h.1).2];omega
    obtain⟨hx,hv⟩:=Rj h.1
    have c57: ¬(AJ c>57):=by rw[Hl];omega
    have hdv:wr .u64 (wr .u8 (AJ c-48))=((Ht c.toNat:Nat):Int):=by
      rw[Hl,VS (by omega),Hd (by omega),hv];omega
    rw[Cy]
    dsimp only[AL]
    rw[if_neg (by simpa using c57),hdv,AZ (by decide),Int.tdiv_eq_ediv_of_nonneg (by omega)]
    have w1:wr .u64 ((n:Int) * 10)=((n * 10:Nat):Int):=by rw[Hd (by omega)];simp
    have w2:wr .u64 (((n * 10:Nat):Int)+((Ht c.toNat:Nat):Int))=((n * 10+Ht c.toNat:Nat):Int):=by rw[Hd (by omega)];simp
    have w3:wr .u64 ((m:Int)-((Ht c.toNat:Nat):Int))=(m:Int)-((Ht c.toNat:Nat):Int):=Hd (by omega)
    have w4:wr .u64 ((m:Int) / 10)=(m:Int) / 10:=Hd (by omega)
    rw[w1,w2,w3,w4,HY]
    have hge:=TV l (n * 10+Ht c.toNat)
    by_cases c1:(n:Int)>(m:Int) / 10
    · rw[if_pos (decide_eq_true c1),if_pos rfl,if_neg (by omega)]
    · rw[if_neg (by simpa using c1)]
      by_cases c2:((n * 10:Nat):Int)>(m:Int)-((Ht c.toNat:Nat):Int)
      · rw[if_pos (decide_eq_true c2),if_pos rfl,if_neg (by omega)]
      · rw[if_neg (by simpa using c2),if_neg (by simp;omega)]
        exact ARl hm hm9 k9 l _ h.2 (by omega)
def Dv (m:Nat) (l:List UInt8):Int×Int:=
  if l=[]then(0,3)else if l.all Ep=true then(if 1<l.length∧l.head?=some 48 then(0,6)else if HY 0 l≤m then(((HY 0 l:Nat):Int),0)else(0,4))else(0,1)
theorem b48 (c:UInt8):(AJ c==48)=decide (c=48):=by
  have:=Ba (f:=fun n=>((n:Int)==48)) (g:=fun n=>decide (UInt8.ofNat n=48)) (by kernel_rfl) c
  simp only[UInt8.ofNat_toNat]at this
  exact this
theorem SQ (c:UInt8) (l:List UInt8) (e:Int×Int):(if decide (((c::l).length:Int)>1)=true then Option.bind (idx (c::l) 0) fun x=>if(AJ x==48)=true then(some (0,6):Option (Int×Int))else some (e.1,e.2)else if false=true then some (0,6)else some (e.1,e.2))=some (if 1<(c::l).length∧(c::l).head?=some 48 then(0,6)else e):=by
  by_cases hl:1<(c::l).length
  · rw[if_pos (by simp only[decide_eq_true_eq];omega),show idx (c::l) 0=some c from rfl,Option.bind_some,b48]
    by_cases hc:c=48
    · rw[decide_eq_true hc,if_pos rfl,if_pos ⟨hl,by simp[hc]⟩]
    · rw[decide_eq_false hc,if_neg (by decide),if_neg (by simp[hc])]
  · rw[if_neg (by simp only[decide_eq_true_eq];omega),if_neg (by decide),if_neg (fun h=>hl h.1)]
theorem SS{m:Nat} (hm:m≤2^59) (l:List UInt8) (hb:l.length≤2^60):GI N l (m:Int)=some (Dv m l):=by
  unfold GI Dv
  dsimp only[AL]
  rw[TN l hb,Option.bind_some,AIv hm l hb,Option.bind_some]
  cases l with
  |nil=>rfl
  | cons c l=>
    simp only[reduceCtorEq,if_false]
    obtain⟨b,h⟩: ∃b,(c::l).all Ep=b:=⟨_,rfl⟩
    rw[h]
    cases b
    · rw[if_neg (by simp),if_neg (by decide)];rfl
    · rw[if_pos (by rfl),if_pos rfl,if_pos rfl]
      have hd: ∀e:Int×Int,(if decide (((c::l).length:Int)>1)=true then Option.bind (idx (c::l) 0) fun x=>if(AJ x==48)=true then(some (0,6):Option (Int×Int))else some (e.1,e.2)else if false=true then some (0,6)else some (e.1,e.2))=some (if 1<(c::l).length∧(c::l).head?=some 48 then(0,6)else e):=SQ c l
      by_cases hv:HY 0 (c::l)≤m
      · rw[if_pos hv];exact hd (((HY 0 (c::l):Nat):Int),0)
      · rw[if_neg hv];exact hd (0,4)
theorem Sc{m:Nat} (hm:m≤2^59) (hm9:9≤m) (l:List UInt8) (hb:l.length≤2^60):G9 N l (m:Int)=some (Dv m l):=by
  have hp:Ju N l 10 (m:Int)=some (if l=[]then(0,3)else if l.all Ep=true then(if HY 0 l≤m then(((HY 0 l:Nat):Int),0)else(0,4))else(0,1)):=by
    unfold Ju
    by_cases h:l=[]
    · subst h;rfl
    · rw[if_neg (by simpa using h),if_neg h,AL,BP (by omega),ARi]
      by_cases h1:l.all Ep=true
      · rw[if_pos h1,if_pos h1,AL,BP (by omega),show(0:Int)=((0:Nat):Int)from rfl,ARl hm hm9 _ l 0 h1 (by omega)]
        split<;>rfl
      · rw[if_neg h1,if_neg h1]
  unfold G9 Dv
  rw[hp,Option.bind_some]
  dsimp only[AL]
  cases l with
  |nil=>rfl
  | cons c l=>
    simp only[reduceCtorEq,if_false]
    obtain⟨b,h⟩: ∃b,(c::l).all Ep=b:=⟨_,rfl⟩
    rw[h]
    cases b
    · rfl
    · simp only[if_true]
      have hd:=SQ c l
      by_cases hv:HY 0 (c::l)≤m
      · rw[if_pos hv,if_pos (by rfl)];exact hd (((HY 0 (c::l):Nat):Int),0)
      · rw[if_neg hv,if_neg (by exact Bool.false_ne_true),if_pos (by rfl)];exact hd (0,4)
end
end Go.VM
namespace Go.VM
section
variable{N:Nat}
def AAk (c:UInt8):Bool:=Iw c||(Ep c||decide (c=45))
theorem b45 (c:UInt8):(AJ c==45)=decide (c=45):=by
  have:=Ba (f:=fun n=>((n:Int)==45)) (g:=fun n=>decide (UInt8.ofNat n=45)) (by kernel_rfl) c
  simp only[UInt8.ofNat_toNat]at this
  exact this
theorem U2 (k8:Unit→Option Bool): ∀l:List UInt8,Dq N k8 l=if l.all AAk=true then k8 ()else some false
  |[]=>by rw[Dq];rfl
  | c::l=>by
    rw[Dq,AL,Qp,Option.bind_some,Ph,Option.bind_some,bne,b45,U2 k8 l,List.all_cons]
    unfold AAk
    cases Iw c<;>cases Ep c<;>cases decide (c=45)<;>simp
theorem VH (k2:Unit→Option Bool): ∀l:List UInt8,DI N k2 l=if l.all AAk=true then k2 ()else some false
  |[]=>by rw[DI];rfl
  | c::l=>by
    rw[DI,AL,Nn,Option.bind_some,Nt,Option.bind_some,bne,b45,VH k2 l,List.all_cons]
    unfold AAk
    cases Iw c<;>cases Ep c<;>cases decide (c=45)<;>simp
def Ir (l:List UInt8):Bool:=!l.isEmpty&&(decide (l.length≤63)&&(decide (l.head?≠some 45)&&(decide (l.getLast?≠some 45)&&l.all AAk)))
theorem VG{c:UInt8}{l:List UInt8} (hb:(c::l).length≤2^60): ∃d,(c::l).getLast?=some d∧idx (c::l) (wr .i64 (((c::l).length:Int)-1))=some d:=by
  have hne:(c::l)≠ []:=by simp
  refine⟨(c::l).getLast hne,List.getLast?_eq_some_getLast hne,?_⟩
  rw[show wr .i64 (((c::l).length:Int)-1)=(((c::l).length-1:Nat):Int) by simp only[List.length_cons]at hb⊢;rw[BF (by omega)];omega,Io,←List.getLast?_eq_getElem?,List.getLast?_eq_some_getLast hne]
theorem AKW (l:List UInt8) (hb:l.length≤2^60):Kr N l=some (Ir l):=by
  unfold Kr Ir
  dsimp only[AL]
  cases l with
  |nil=>rfl
  | cons c l=>
    obtain⟨d,h1,h2⟩:=VG hb
    rw[if_neg (by exact Bool.false_ne_true),h2,h1,show idx (c::l) 0=some c from rfl,Option.bind_some,Option.bind_some,b45,b45,BP (by omega),U2]
    by_cases hl:(c::l).length≤63
    · rw [if_neg (by simp only[decide_eq_true_eq];omega),decide_eq_true hl]
      by_cases hc:c=45
      · rw[decide_eq_true hc,if_pos rfl,if_pos rfl];simp[hc]
      · rw[decide_eq_false hc,if_neg (by decide)]
        by_cases hd:d=45
        · rw[decide_eq_true hd,if_pos rfl];simp[hd]
        · rw[decide_eq_false hd,if_neg (by decide)]
          obtain⟨b,hb2⟩: ∃b,(c::l).all AAk=b:=⟨_,rfl⟩
          rw[hb2];cases b<;>simp[hc,hd]
    · rw[if_pos (by simp only[decide_eq_true_eq];omega),if_pos rfl,decide_eq_false hl];simp
theorem AIc (l:List UInt8) (hb:l.length≤2^60):Jl N l=some (Ir l):=by
  unfold Jl Ir
  dsimp only[AL]
  rw[BP (by omega),VH]
  cases l with
  |nil=>rfl
  | cons c l=>
    obtain⟨d,h1,h2⟩:=VG hb
    obtain⟨b,hb2⟩: ∃b,(c::l).all AAk=b:=⟨_,rfl⟩
    rw[if_neg (c:=((c::l==[])=true)) (by exact Bool.false_ne_true),h2,h1,show idx (c::l) 0=some c from rfl,Option.bind_some,Option.bind_some,bne,bne,b45,b45,hb2]
    cases b
    · simp
    · rw [if_pos rfl]
      by_cases hl:(c::l).length≤63
      · rw[if_pos (by simp only[decide_eq_true_eq];omega),decide_eq_true hl]
        by_cases hc:c=45
        · rw[decide_eq_true hc,if_neg (by decide)];simp[hc]
        · rw[decide_eq_false hc,if_pos (by decide)]
          by_cases hd:d=45<;>simp[hc,hd]
      · rw[if_neg (by simp only[decide_eq_true_eq];omega),decide_eq_false hl];simp
end
end Go.VM
namespace Go.VM
def AP (c:UInt8):List UInt8→List (List UInt8)
  |[]=>[[]]
  |x::t=>if x=c then []::AP c t else(match AP c t with|p::ps=>(x::p)::ps|[]=>[[x]])
theorem Bo (c:UInt8): ∀l:List UInt8,AP c l≠ []
  |[]=>by simp[AP]
  | x::t=>by
    rw[AP]
    split
    · simp
    · split<;>simp
def AHI (cur:List UInt8):List (List UInt8)→List (List UInt8)
  |p::ps=>(cur++p)::ps
  |[]=>[cur]
theorem AIF{c x:UInt8}{t cur:List UInt8} (h: ¬x=c):AHI cur (AP c (x::t))=AHI (cur++[x]) (AP c t):=by
  rw[AP,if_neg h]
  cases hs:AP c t with
  |nil=>exact absurd hs (Bo c t)
  |cons p ps=>simp[AHI]
theorem FD (c:UInt8): ∀l:List UInt8,(AP c l).length≤l.length+1
  |[]=>by simp[AP]
  | x::t=>by
    have:=FD c t
    rw[AP]
    split
    · simp only[List.length_cons];omega
    · split
      · rename_i h;rw[h]at this;simp only[List.length_cons]at this⊢;omega
      · simp
theorem Ed (c:UInt8): ∀(l p:List UInt8),p∈AP c l→p.length≤l.length
  |[],p,h=>by simp[AP]at h;subst h;simp
  | x::t,p,h=>by
    rw[AP]at h
    split at h
    · rcases List.mem_cons.1 h with rfl|h
      · simp
      · have:=Ed c t p h;simp only[List.length_cons];omega
    · split at h
      · rename_i q qs hq
        rcases List.mem_cons.1 h with rfl|h
        · have:=Ed c t q (by rw[hq];simp);simp only[List.length_cons];omega
        · have:=Ed c t p (by rw[hq];simp[h]);simp only[List.length_cons];omega
      · simp only[List.mem_singleton]at h;subst h;simp
section
variable{N:Nat}
theorem AUW (x c:UInt8):(AJ x==AJ c)=decide (x=c):=by
  by_cases e:x=c
  · subst e;simp
  · have: ¬x.toNat=c.toNat:=fun h=>e (UInt8.toNat_inj.1 h)
    rw[decide_eq_false e]
    simp only[AJ,beq_eq_false_iff_ne,ne_eq];omega
theorem NS (l:List UInt8) (c:UInt8) (hb:l.length≤1000000): ∀(t pre cur:List UInt8) (out:List (List UInt8)),l=pre++(cur++t)→out.length≤pre.length+cur.length→
    DD N l (AJ c) (fun j1=>Option.bind (sub l j1.2 (l.length:Int)) fun x11=>grd (ET (j1.1.length+1) 16) (some (j1.1++[x11]))) t ((pre.length+cur.length:Nat):Int) out (pre.length:Int)=some (out++AHI cur (AP c t))
  | [],pre,cur,out,h,ho=>by
    have hl:=congrArg List.length h
    simp only[List.length_append,List.length_nil]at hl
    rw[DD]
    dsimp only
    rw[CR l pre.length l.length (by omega) (by omega),Option.bind_some,AZ (by unfold ET;omega),h,List.drop_left]
    simp[AP,AHI]
  | x::t,pre,cur,out,h,ho=>by
    have hl:=congrArg List.length h
    simp only[List.length_append,List.length_cons]at hl
    rw[DD,AL,AUW]
    by_cases e:x=c
    · rw[decide_eq_true e,if_pos rfl,CR l pre.length (pre.length+cur.length) (by omega) (by omega),Option.bind_some,AZ (by unfold ET;omega)]
      dsimp only
      have:=NS l c hb t (pre++cur++[x]) [] (out++[cur]) (by rw[h];simp) (by simp only[List.length_append,List.length_cons,List.length_nil];omega)
      have e1:(l.drop pre.length).take (pre.length+cur.length-pre.length)=cur:=by
        rw[h,List.drop_left,show pre.length+cur.length-pre.length=cur.length by omega,List.take_left]
      rw[e1,AP,if_pos e]
      rw[show(((pre++cur++[x]).length+([]:List UInt8).length:Nat):Int)=((pre.length+cur.length:Nat):Int)+1 by simp only[List.length_append,List.length_cons,List.length_nil];omega,show(((pre++cur++[x]).length:Nat):Int)=((pre.length+cur.length:Nat):Int)+1 by simp only[List.length_append,List.length_cons,List.length_nil];omega]at this
      rw[this]
      cases hs:AP c t with
      |nil=>exact absurd hs (Bo c t)
      |cons p ps=>simp[AHI]
    · rw[decide_eq_false e,if_neg (by decide),AIF e]
      dsimp only
      have:=NS l c hb t pre (cur++[x]) out (by rw[h];simp) (by simp only[List.length_append,List.length_cons,List.length_nil];omega)
      rw[show((pre.length+(cur++[x]).length:Nat):Int)=((pre.length+cur.length:Nat):Int)+1 by simp only[List.length_append,List.length_cons,List.length_nil];omega]at this
      exact this
theorem KO (l:List UInt8) (c:UInt8) (hb:l.length≤1000000):EQ N l (AJ c)=some (AP c l):=by
  unfold EQ
  rw[AL,BP (by omega)]
  have:=NS (N:=N) l c hb l [] [] [] rfl (by simp)
  refine this.trans ?_
  cases hs:AP c l with
  |nil=>exact absurd hs (Bo c l)
  |cons p ps=>simp[AHI]
end
end Go.VM
namespace Go.VM
theorem IC (c:UInt8): ∀l:List UInt8,AP c l=if(AY c l).2.2=true then(AY c l).1::AP c (AY c l).2.1 else [(AY c l).1]
  |[]=>by simp[AP,AY]
  | x::t=>by
    have ih:=IC c t
    rw[AP]
    unfold AY at ih⊢
    by_cases e:x=c
    · subst e;simp
    · have e1:(c==x)=false:=by simpa using fun h:c=x=>e h.symm
      have e3:(x !=c)=true:=by simpa using e
      rw[if_neg e,List.contains_cons,e1,Bool.false_or,List.takeWhile_cons,e3]
      cases hc:t.contains c
      · rw[hc]at ih;simp only[Bool.false_eq_true,if_false]at ih⊢;rw[ih]
      · rw[hc]at ih;simp only[if_true]at ih⊢;rw[ih,List.dropWhile_cons,e3];simp
section
variable{N:Nat}
def AUE (l:List UInt8):Bool:=!l.isEmpty&&l.all Ep
def M3 (l:List UInt8):Bool:=(AP 46 l).all Ir&&!AUE ((AP 46 l).getLast (Bo 46 l))
theorem AJM (l:List UInt8):M3 l=(Ir (AY 46 l).1&&if(AY 46 l).2.2=true then M3 (AY 46 l).2.1 else !AUE (AY 46 l).1):=by
  have h:=IC 46 l
  unfold M3
  cases hc:(AY 46 l).2.2
  · rw[hc]at h;simp only[Bool.false_eq_true,if_false]at h⊢
    simp[h]
  · rw[hc]at h;simp only[if_true]at h⊢
    have: ∀(a:List (List UInt8)) (b:List UInt8) (r:List (List UInt8)) (hr:r≠ []) (ha:a≠ []),a=b::r→a.getLast ha=r.getLast hr:=fun a b r hr ha e=>by subst e;rw[List.getLast_cons hr]
    rw[this _ _ _ (Bo 46 _) (Bo 46 l) h]
    rw[show(AP 46 l).all Ir=(Ir (AY 46 l).1&&(AP 46 (AY 46 l).2.1).all Ir) by rw[h,List.all_cons]]
    rw[Bool.and_assoc]
theorem AL9{c:UInt8}{l:List UInt8} (h:(AY c l).2.2=true):(AY c l).2.1.length<l.length:=by
  unfold AY at h⊢
  cases hc:l.contains c
  · rw[hc]at h;simp at h
  · have h1:=Ih hc
    have h2:(l.takeWhile (· !=c)).length+(l.dropWhile (· !=c)).length=l.length:=by rw[←List.length_append,List.takeWhile_append_dropWhile]
    simp only[if_true,List.length_drop];omega
theorem AQR (c:UInt8) (l:List UInt8):(AY c l).1.length≤l.length:=by
  unfold AY
  split
  · exact Lu _ l
  · exact Nat.le_refl _
theorem Ru: ∀(k:Nat) (l:List UInt8),l.length<k→l.length≤2^60→Fv N k l=some (M3 l)
  |0,l,h,_=>by omega
  | k+1,l,h,hb=>by
    have h1:=AQR 46 l
    rw[Fv,MI 46 l hb,Option.bind_some,AKW _ (by omega),Option.bind_some,AJM l]
    cases Ir (AY 46 l).1
    · rfl
    · rw[if_pos rfl,Bool.true_and]
      cases hc:(AY 46 l).2.2
      · rw[if_neg (by decide),TN _ (by omega),Option.bind_some];rfl
      · have:=AL9 hc
        rw[if_pos rfl,if_pos rfl]
        exact Ru k _ (by omega) (by omega)
theorem AMr (l:List UInt8) (hN:l.length<N) (hb:l.length≤2^60):Nl N l=some (M3 l):=Ru N l hN hb
theorem Rx (k4:Unit→Option Bool): ∀ps:List (List UInt8),(∀p,p∈ps→p.length≤2^60)→Dl N k4 ps=if ps.all Ir=true then k4 ()else some false
  |[],_=>by rw[Dl];rfl
  | p::ps,h=>by
    rw[Dl,AIc p (h p (by simp)),Option.bind_some,Rx k4 ps fun q hq=>h q (by simp[hq]),List.all_cons]
    cases Ir p<;>simp
theorem ALv (l:List UInt8) (hb:l.length≤1000000):Kw N l=some (M3 l):=by
  have hl:=FD 46 l
  have hp:=Ed 46 l
  have hne:=Bo 46 l
  unfold Kw
  rw[show(46:Int)=AJ 46 from rfl,KO l 46 hb,Option.bind_some]
  dsimp only[AL]
  rw[BP (by omega),Rx _ _ fun p h=>by have:=hp p h;omega]
  have hlast:idx (AP 46 l) (wr .i64 (((AP 46 l).length:Int)-1))=some ((AP 46 l).getLast hne):=by
    have:0<(AP 46 l).length:=List.length_pos_iff.2 hne
    rw[show wr .i64 (((AP 46 l).length:Int)-1)=(((AP 46 l).length-1:Nat):Int) by rw[BF (by omega)];omega,Io,←List.getLast?_eq_getElem?,List.getLast?_eq_some_getLast hne]
  have:=hp _ (List.getLast_mem hne)
  rw[hlast,Option.bind_some,AGX _ (by omega),Option.bind_some]
  unfold M3
  cases (AP 46 l).all Ir
  · rfl
  · rfl
def S9 (l:List UInt8):Bool:=decide ((AP 46 l).length=4)&&(AP 46 l).all fun p=>(Dv 255 p).2==0
theorem U3 (k4:Unit→Option Bool): ∀ps:List (List UInt8),(∀p,p∈ps→p.length≤2^60)→Cf N k4 ps=if(ps.all fun p=>(Dv 255 p).2==0)=true then k4 ()else some false
  |[],_=>by rw[Cf];rfl
  | p::ps,h=>by
    rw[Cf,show(255:Int)=((255:Nat):Int)from rfl,Sc (by decide) (by decide) p (h p (by simp)),Option.bind_some,U3 k4 ps fun q hq=>h q (by simp[hq]),List.all_cons]
    cases hx:((Dv 255 p).2==0)<;>simp[bne,hx]
theorem AHT (l:List UInt8) (hb:l.length≤1000000):Gu N l=some (S9 l):=by
  have hl:=FD 46 l
  have hp:=Ed 46 l
  unfold Gu
  rw[show(46:Int)=AJ 46 from rfl,KO l 46 hb,Option.bind_some]
  dsimp only[AL]
  rw[BP (by omega),U3 _ _ fun p h=>by have:=hp p h;omega]
  unfold S9
  have e:(((AP 46 l).length:Int)==4)=decide ((AP 46 l).length=4):=by
    by_cases h:(AP 46 l).length=4
    · rw[decide_eq_true h,h];rfl
    · rw[decide_eq_false h];simp;omega
  rw[e]
  cases ((AP 46 l).all fun p=>(Dv 255 p).2==0)<;>simp
end
end Go.VM
namespace Go.VM
section
variable{N:Nat}
theorem U4 (l:List UInt8) (hb:l.length≤2^60) (k2:List Int→Option (List UInt8)): ∀(t pre:List UInt8),l=pre++t→Cx N l k2 t (pre.length:Int) (List.map AJ (pre.map Dc)++List.map AJ t)=k2 (List.map AJ (l.map Dc))
  |[],pre,h=>by rw[Cx,h];simp
  | c::t,pre,h=>by
    have hlen:pre.length<l.length:=by rw[h];simp
    have hc:=c.toNat_lt
    have next:=U4 l hb k2 t (pre++[c]) (by rw[h];simp)
    rw[←ADf]at next
    have hi:idx (List.map AJ (pre.map Dc)++List.map AJ (c::t)) (pre.length:Int)=some (AJ c):=by
      have:=AHa (List.map AJ (pre.map Dc)) (List.map AJ t) (AJ c)
      simpa using this
    have hset:(List.map AJ (pre.map Dc)++List.map AJ (c::t)).set pre.length (AJ (Dc c))=List.map AJ ((pre++[c]).map Dc)++List.map AJ t:=by simp
    rw[Cx]
    dsimp only[AL]
    rw[AZ (by omega),hi,Option.bind_some]
    by_cases h1:65≤c.toNat∧c.toNat≤90
    · have e:Dc c=UInt8.ofNat (c.toNat+32):=by unfold Dc ALu;rw[if_pos h1]
      have e2:AJ (Dc c)=wr .u8 (AJ c+32):=by
        rw[e,VS (by simp only[AJ];omega)]
        simp only[AJ]
        rw[toNat_ofNat (by omega)];simp
      rw[if_pos (by have:=Hl c;rw[decide_eq_true_eq];omega),if_pos (by have:=Hl c;rw[decide_eq_true_eq];omega),AZ (by omega),Option.bind_some,AZ (by simp<;>omega),←e2]
      rw[show((pre.length:Nat):Int).toNat=pre.length from rfl,hset]
      exact next
    · have e:Dc c=c:=by unfold Dc ALu;rw[if_neg h1];simp
      have e3:List.map AJ ((pre++[c]).map Dc)++List.map AJ t=List.map AJ (pre.map Dc)++List.map AJ (c::t):=by simp[e]
      rw[e3]at next
      by_cases h2:65≤c.toNat
      · rw[if_pos (by have:=Hl c;rw[decide_eq_true_eq];omega),if_neg (by have:=Hl c;rw[decide_eq_true_eq];omega)]
        exact next
      · rw[if_neg (by have:=Hl c;rw[decide_eq_true_eq];omega),if_neg (by decide)]
        exact next
theorem Nr (l:List UInt8) (hb:l.length≤2^60):Fh N l=some (l.map Dc):=by
  unfold Fh
  rw[AL,AZ (by unfold AX;omega)]
  have:=U4 (N:=N) l hb (fun j1=>grd (l.length≤j1.length∧AX l.length) (some (List.map E9 (List.take l.length j1)))) l [] rfl
  simp only[List.map_nil,List.nil_append,List.length_nil]at this
  rw[show(0:Int)=((0:Nat):Int)from rfl,this,AZ (by unfold AX;simp;omega),List.take_of_length_le (by simp),Gb]
theorem Qj (a b:List UInt8) (ha:a.length≤2^60) (hb:b.length≤2^60):Ga N a b=some (a.map Dc==b.map Dc):=by
  unfold Ga;rw[lower_eq a ha,Option.bind_some,lower_eq b hb,Option.bind_some]
theorem Qk (a b:List UInt8) (ha:a.length≤2^60) (hb:b.length≤2^60):Gh N a b=some (a.map Dc==b.map Dc):=by
  unfold Gh;rw[Nr a ha,Option.bind_some,Nr b hb,Option.bind_some]
def FH (l:List UInt8):List UInt8×Int:=if l=[]then([],3)else if l.length>253 then([],5)else if(S9 l||M3 l)=true then(l.map Dc,0)else([],50)
theorem R6 (l:List UInt8):H6 N l=some (FH l):=by
  unfold H6 FH
  by_cases h:l=[]
  · subst h;rfl
  rw[if_neg (by simpa using h),if_neg h]
  by_cases h2:l.length>253
  · rw[if_pos (by simp only[decide_eq_true_eq];omega),if_pos h2]
  rw[if_neg (by simp only[decide_eq_true_eq];omega),if_neg h2]
  dsimp only[AL]
  rw[AHT l (by omega),Option.bind_some,ALv l (by omega),Option.bind_some,Nr l (by omega),Option.bind_some]
  cases S9 l<;>cases M3 l<;>rfl
end
end Go.VM
namespace Go.VM
section
variable{N:Nat}
theorem NL (m:Nat) (l:List UInt8):0≤(Dv m l).1∧(Dv m l).1≤m:=by
  unfold Dv
  split
  · simp
  · split
    · split
      · simp
      · split
        · exact⟨by simp only[];omega,by simp only[];omega⟩
        · simp
    · simp
def Mi (l:List UInt8):Int×Int:=if((Dv 65535 l).2 !=0||(Dv 65535 l).1==0)=true then(0,51)else((Dv 65535 l).1,0)
theorem AMZ (l:List UInt8) (hb:l.length≤2^60):Lv N l=some (Mi l):=by
  have:=NL 65535 l
  unfold Lv Mi
  rw[show(65535:Int)=((65535:Nat):Int)from rfl,SS (by decide) l hb,Option.bind_some]
  dsimp only[AL]
  rw[BF (by omega)]
  cases (Dv 65535 l).2 !=0<;>cases (Dv 65535 l).1==0<;>rfl
theorem AM8 (l:List UInt8) (hb:l.length≤2^60):Kj N l=some (Mi l):=by
  have:=NL 65535 l
  unfold Kj Mi
  rw[show(65535:Int)=((65535:Nat):Int)from rfl,Sc (by decide) (by decide) l hb,Option.bind_some]
  dsimp only[AL]
  rw[BF (by omega)]
  cases (Dv 65535 l).2 !=0<;>cases (Dv 65535 l).1==0<;>rfl
def hpS (l:List UInt8):ApiHostPort×Int:=
  if((FH (AY 58 l).1).2 !=0)=true then(⟨[],0⟩,(FH (AY 58 l).1).2)
  else if(AY 58 l).2.2=true then(if((Mi (AY 58 l).2.1).2 !=0)=true then(⟨[],0⟩,(Mi (AY 58 l).2.1).2)else(⟨(FH (AY 58 l).1).1,if((Mi (AY 58 l).2.1).1==443)=true then 0 else(Mi (AY 58 l).2.1).1⟩,0))
  else(⟨(FH (AY 58 l).1).1,0⟩,0)
theorem NB{c:UInt8}: ∀l:List UInt8,l.contains c=false→l.takeWhile (· !=c)=l
  |[],_=>rfl
  | x::t,h=>by
    rw[List.contains_cons,Bool.or_eq_false_iff]at h
    have e:(x !=c)=true:=by simp only[bne_iff_ne,ne_eq];rintro rfl;simp at h
    rw[List.takeWhile_cons,e,if_pos rfl,NB t h.2]
theorem AMt (l:List UInt8) (hb:l.length≤1000000):IJ N l=some (hpS l):=by
  have hw:(fun c:UInt8=>!([58]:List UInt8).contains c)=(fun c=>c !=58):=by funext c;simp[bne];rfl
  have hle:=Lu (· !=(58:UInt8)) l
  have h0:sub l 0 ((l.takeWhile (· !=(58:UInt8))).length:Int)=some (l.takeWhile (· !=(58:UInt8))):=by
    have:=CR l 0 _ (Nat.zero_le _) hle
    rw[List.drop_zero,Nat.sub_zero,JK]at this
    exact this
  unfold IJ hpS
  rw[IR l [58] (by decide) (by omega),Option.bind_some,hw,h0,Option.bind_some,R6,Option.bind_some]
  unfold AY
  cases hc:l.contains 58
  · have hall:l.takeWhile (· !=(58:UInt8))=l:=by
      exact NB l hc
    simp only[Bool.false_eq_true,if_false]
    rw[hall]
    by_cases h:((FH l).2 !=0)=true
    · rw[if_pos h,if_pos h]
    · rw[if_neg h,if_neg h,if_pos (by simp)]
  · have hlt:=Ih hc
    have hd:l.drop ((l.takeWhile (· !=(58:UInt8))).length+1)=(l.dropWhile (· !=(58:UInt8))).drop 1:=by
      rw[←List.drop_drop]
      congr 1
      have e:=List.takeWhile_append_dropWhile (p:=(· !=(58:UInt8))) (l:=l)
      have e2:(l.takeWhile (· !=(58:UInt8))++l.dropWhile (· !=(58:UInt8))).drop (l.takeWhile (· !=(58:UInt8))).length=l.dropWhile (· !=(58:UInt8)):=List.drop_left
      rw[e]at e2
      exact e2
    simp only[if_true]
    by_cases h:((FH (l.takeWhile (· !=(58:UInt8)))).2 !=0)=true
    · rw[if_pos h,if_pos h]
    · rw[if_neg h,if_neg h,if_neg (by simp;omega)]
      rw[show wr .i64 (((l.takeWhile (· !=(58:UInt8))).length:Int)+1)=(((l.takeWhile (· !=(58:UInt8))).length+1:Nat):Int) by rw[BF (by omega)];omega,CR l _ _ (by omega) (by omega),Option.bind_some,hd,List.take_of_length_le (by
        have:=congrArg List.length hd
        rw[List.length_drop]at this
        omega),AM8 _ (by rw[List.length_drop];have:=(List.dropWhile_sublist (· !=(58:UInt8)) (l:=l)).length_le;omega),Option.bind_some]
      dsimp only[AL]
      by_cases hp:((Mi ((l.dropWhile (· !=(58:UInt8))).drop 1)).2 !=0)=true
      · rw[if_pos hp,if_pos hp]
      · rw[if_neg hp,if_neg hp]
        split<;>rfl
end
end Go.VM
namespace Go.VM
section
variable{N:Nat}
theorem AGx{out:List UInt8}{bq:List Int} (h:List.take out.length bq=List.map AJ out):List.take (GM out).length bq=List.map AJ (GM out):=by
  have hle:=Nu out
  have e:List.take (GM out).length (List.take out.length bq)=List.take (GM out).length bq:=by rw[List.take_take,Nat.min_eq_left hle]
  rw[←e,h]
  unfold GM
  split
  · rename_i i hi
    have:=SK hi
    rw[List.length_take,Nat.min_eq_left (by omega),List.map_take]
  · simp
theorem AMT (out:List UInt8) (v:Int) (hv:v=(match Mq out out.length with|some i=>(i:Int)|none=> -1)):(if v>0 then v else 0).toNat=(GM out).length∧0≤(if v>0 then v else 0)∧(if v>0 then v else 0)≤(out.length:Int):=by
  subst hv
  unfold GM
  cases h:Mq out out.length with
  |none=>simp
  | some i=>
    have:=SK h
    simp only[List.length_take]
    split<;>omega
theorem IK (hN:20000≤N): ∀(k:Nat) (s out:List UInt8) (bq:List Int),s.length<k→s.length+out.length≤16380→out.length≤bq.length→List.take out.length bq=List.map AJ out→
    Ai N k s out.length bq=some (Hr k s out)
  |0,s,out,bq,h,_,_,_=>by omega
  | k + 1, s,out,bq,hk,hb,hl,ht=>by
    rw[Ai,Hr]
    have hchr:List.map E9 (List.take out.length bq)=out:=by rw[ht,Gb]
    have hso:=Nu out
    by_cases h0:s=[]
    · rw[if_pos (by simpa using h0),if_pos h0,AZ ⟨hl,by unfold AX;omega⟩,hchr]
    have hpos:0<s.length:=List.length_pos_iff.2 h0
    rw[if_neg (by simpa using h0),if_neg h0,Rm,Option.bind_some]
    by_cases h1:preB [46,46,47] s=true
    · have:=KE h1;simp only[List.length_cons,List.length_nil]at this
      rw[if_pos h1,if_pos h1,show(3:Int)=((3:Nat):Int)from rfl,BZ (by omega),Option.bind_some]
      exact IK hN k _ out bq (by simp;omega) (by simp;omega) hl ht
    rw[if_neg h1,if_neg h1,Rm,Option.bind_some]
    by_cases h2:preB [46,47] s=true
    · have:=KE h2;simp only[List.length_cons,List.length_nil]at this
      rw[if_pos h2,if_pos h2,show(2:Int)=((2:Nat):Int)from rfl,BZ (by omega),Option.bind_some]
      exact IK hN k _ out bq (by simp;omega) (by simp;omega) hl ht
    rw[if_neg h2,if_neg h2,Rm,Option.bind_some]
    by_cases h3:preB [47,46,47] s=true
    · have:=KE h3;simp only[List.length_cons,List.length_nil]at this
      rw[if_pos h3,if_pos h3,show(2:Int)=((2:Nat):Int)from rfl,BZ (by omega),Option.bind_some]
      exact IK hN k _ out bq (by simp;omega) (by simp;omega) hl ht
    rw[if_neg h3,if_neg h3]
    by_cases h4:s=[47,46]
    · rw[if_pos (by simpa using h4),if_pos h4]
      have:=congrArg List.length h4;simp only[List.length_cons,List.length_nil]at this
      exact IK hN k _ out bq (by simp;omega) (by simp;omega) hl ht
    rw[if_neg (by simpa using h4),if_neg h4]
    dsimp only[AL]
    rw[Rm,Option.bind_some]
    have hcut: ∀s2:List UInt8,s2.length<k→s2.length+out.length≤16380→ ∀(v:Int),v=(match Mq out out.length with|some i=>(i:Int)|none=> -1)→
        grd (0≤(if v>0 then v else 0)∧(if v>0 then v else 0)≤(out.length:Int)) (Ai N k s2 ((if v>0 then v else 0).toNat) bq)=some (Hr k s2 (GM out)):=by
      intro s2 hs2 hs3 v hv
      obtain⟨e1,e2,e3⟩:=AMT out v hv
      rw[AZ ⟨e2,e3⟩,e1]
      exact IK hN k s2 (GM out) bq hs2 (by omega) (by omega) (AGx ht)
    have htail: ∀s2:List UInt8,s2.length<k→s2.length+out.length≤16380→
        (grd (out.length≤bq.length∧AX out.length) (Option.bind (strings_LastIndexByte N (List.map E9 (List.take out.length bq)) 47) fun y20=>
         grd (0≤(if y20>0 then y20 else 0)∧(if y20>0 then y20 else 0)≤(out.length:Int)) (Ai N k s2 ((if y20>0 then y20 else 0).toNat) bq)))=some (Hr k s2 (GM out)):=by
      intro s2 hs2 hs3
      rw[AZ ⟨hl,by unfold AX;omega⟩,hchr,AJG out (by omega) (by omega),Option.bind_some]
      exact hcut s2 hs2 hs3 _ rfl
    by_cases h5:preB [47,46,46,47] s=true
    · obtain⟨t,rfl⟩:=Rn h5
      have e3:([47,46,46,47]++t:List UInt8).drop 3=47::t:=rfl
      have ep:preB [47] (47::t)=true:=by unfold preB;simp
      simp only[List.length_append,List.length_cons,List.length_nil]at hk hb
      rw[if_pos h5,if_pos h5,if_pos rfl,show(3:Int)=((3:Nat):Int)from rfl,BZ (by simp),Option.bind_some,e3,ACy,if_pos ep,Option.bind_some,BP (by simp;omega)]
      exact htail (47::t) (by simp only[List.length_cons];omega) (by simp only[List.length_cons];omega)
    rw[if_neg h5,if_neg h5]
    by_cases h6:s=[47,46,46]
    · subst h6
      simp only[List.length_cons,List.length_nil]at hk hb
      rw[if_pos (by rfl),if_pos rfl,show(3:Int)=((3:Nat):Int)from rfl,BZ (by simp),Option.bind_some,ACy,if_neg (by decide),Option.bind_some,BP (by simp)]
      exact htail [47] (by simp only[List.length_cons,List.length_nil];omega) (by simp only[List.length_cons,List.length_nil];omega)
    rw[if_neg (by simpa using h6),if_neg h6]
    have hdd:(if(s==([46]:List UInt8))=true then Ai N k [] out.length bq else if(s==([46,46]:List UInt8))=true then Ai N k [] out.length bq else Option.bind (sub s 1 (s.length:Int)) fun x26=>
           Option.bind (strings_IndexByte N x26 47) fun y27=>
           if((wr .i64 (1+y27))==0)=true then
            Option.bind (sub s 0 (s.length:Int)) fun x33=>
            grd (out.length≤bq.length∧ET (out.length+x33.length) 1) (
            Option.bind (sub s (s.length:Int) (s.length:Int)) fun x35=>
            Ai N k x35 (out.length+x33.length) (List.take out.length bq++List.map AJ x33))
           else Option.bind (sub s 0 (wr .i64 (1+y27))) fun x33=>
            grd (out.length≤bq.length∧ET (out.length+x33.length) 1) (
            Option.bind (sub s (wr .i64 (1+y27)) (s.length:Int)) fun x35=>
            Ai N k x35 (out.length+x33.length) (List.take out.length bq++List.map AJ x33)))=some (if s=[46]∨s=[46,46]then Hr k [] out else Hr k (s.drop (JO s)) (out++s.take (JO s))):=by
      have hrec:=IK hN k [] out bq (by simp;omega) (by simp;omega) hl ht
      by_cases h7:s=[46]
      · rw[if_pos (by simpa using h7),if_pos (.inl h7)];exact hrec
      by_cases h8:s=[46,46]
      · rw[if_neg (by simpa using h7),if_pos (by simpa using h8),if_pos (.inr h8)];exact hrec
      have hsl:=ALn h0
      have h1s:1≤JO s:=by unfold JO;omega
      rw[if_neg (by simpa using h7),if_neg (by simpa using h8),if_neg (by rintro(h|h);exact h7 h;exact h8 h),show(1:Int)=((1:Nat):Int)from rfl,BZ (by omega),Option.bind_some,show(47:Int)=AJ 47 from rfl,JR,Option.bind_some,Ij]
      have fin:(Option.bind (sub s 0 ((JO s:Nat):Int)) fun x33=>
            grd (out.length≤bq.length∧ET (out.length+x33.length) 1) (
            Option.bind (sub s ((JO s:Nat):Int) (s.length:Int)) fun x35=>
            Ai N k x35 (out.length+x33.length) (List.take out.length bq++List.map AJ x33)))=some (Hr k (s.drop (JO s)) (out++s.take (JO s))):=by
        rw[show(0:Int)=((0:Nat):Int)from rfl,CR s 0 _ (Nat.zero_le _) hsl,Option.bind_some,AZ ⟨hl,JI (by simp;omega)⟩,BZ hsl,Option.bind_some,List.drop_zero,Nat.sub_zero,ht]
        have hlen:out.length+(List.take (JO s) s).length=(out++List.take (JO s) s).length:=by simp
        rw[hlen]
        exact IK hN k _ (out++s.take (JO s)) _ (by simp;omega) (by simp;omega) (by simp) (by rw[List.take_of_length_le (by simp)];simp)
      by_cases hc:(s.drop 1).contains 47=true
      · have e:wr .i64 (((1:Nat):Int)+(((s.drop 1).takeWhile (· !=47)).length:Int))=((JO s:Nat):Int):=by
          unfold JO at hsl⊢;rw[BF (by omega)];omega
        rw[if_pos hc,e,if_neg (by simp;omega)]
        exact fin
      · rw [if_neg hc,if_pos (by rfl)]
        have hc':(s.drop 1).contains 47=false:=by simpa using hc
        have e:JO s=s.length:=by
          have hall:(s.drop 1).takeWhile (· !=(47:UInt8))=s.drop 1:=by
            exact NB _ hc'
          unfold JO;rw[hall,List.length_drop];omega
        rw[e]at fin
        rw[e]
        exact fin
    by_cases h7:(s==([46]:List UInt8))=true
    · rw[if_pos h7]at hdd⊢;rw[if_pos rfl,hdd]
    · rw[if_neg h7]at hdd⊢;rw[hdd]
theorem AO7 (s:List UInt8) (hN:20000≤N) (hb:s.length≤16380):FP N s=some (Hr N s []):=by
  unfold FP
  rw[AZ (by unfold Q3;omega)]
  have:=IK hN N s [] (List.replicate (0:Int).toNat 0) (by omega) (by simpa using hb) (by simp) (by simp)
  simpa using this
theorem KC: ∀(k:Nat) (s out:List UInt8),(Hr k s out).length≤s.length+out.length
  |0,s,out=>by simp[Hr]
  | k+1,s,out=>by
    have hso:=Nu out
    rw[Hr]
    split
    · omega
    split
    · have:=KC k (s.drop 3) out;simp only[List.length_drop]at this;omega
    split
    · have:=KC k (s.drop 2) out;simp only[List.length_drop]at this;omega
    split
    · have:=KC k (s.drop 2) out;simp only[List.length_drop]at this;omega
    split
    · rename_i h;have:=KC k [47] out;rw[h];simp only[List.length_cons,List.length_nil]at *;omega
    split
    · have:=KC k (s.drop 3) (GM out);simp only[List.length_drop]at this;omega
    split
    · rename_i h;have:=KC k [47] (GM out);rw[h];simp only[List.length_cons,List.length_nil]at *;omega
    split
    · have:=KC k [] out;simp only[List.length_nil]at this;omega
    · have:=KC k (s.drop (JO s)) (out++s.take (JO s));simp only[List.length_drop,List.length_append,List.length_take]at this;omega
end
end Go.VM
namespace Go.VM
section
variable{N:Nat}
theorem V6 (c:UInt8) (l:List UInt8):strings_Index N l [c]=some (Go.Lib.indexByte l c):=by
  unfold strings_Index Bn
  dsimp only[AL]
  rw[if_neg (by exact Bool.false_ne_true)]
  by_cases h:([c]==l)=true
  · have:l=[c]:=by have:=beq_iff_eq.1 h;exact this.symm
    subst this
    simp[Go.Lib.indexByte]
  · rw[if_neg h,if_pos (by rfl),show idx [c] 0=some c from rfl,Option.bind_some]
    unfold Aw
    rw[IM];rfl
theorem Lb{c:UInt8}{l:List UInt8}:l.count c=0↔l.contains c=false:=by
  rw[List.count_eq_zero]
  simp
theorem Qt{c:UInt8}: ∀ {l:List UInt8},l.contains c=true→l.count c=((l.dropWhile (· !=c)).drop 1).count c+1
  |[],h=>by simp at h
  | x::t,h=>by
    by_cases hx:x=c
    · subst hx;simp
    · have hx':(x !=c)=true:=by simpa using hx
      rw[List.contains_cons,show(c==x)=false by simpa using fun h:c=x=>hx h.symm,Bool.false_or]at h
      rw[List.dropWhile_cons,if_pos hx',List.count_cons,show(x==c)=false by simpa using hx,Qt h]
      simp
theorem ED{c:UInt8}{l:List UInt8} (h:l.contains c=true):AY c l=(l.takeWhile (· !=c),(l.dropWhile (· !=c)).drop 1,true):=by unfold AY;rw[if_pos h]
theorem MU{c:UInt8}{l:List UInt8} (h:l.contains c=false):AY c l=(l,[],false):=by unfold AY;rw[if_neg (by rw[h];decide)]
theorem Xo{c:UInt8}{l:List UInt8} (h:l.contains c=true) (hb:l.length≤1000000):
    sub l 0 (wr .i64 (Go.Lib.indexByte l c+0))=some (AY c l).1∧sub l (wr .i64 (Go.Lib.indexByte l c+(([c]:List UInt8).length:Int))) (l.length:Int)=some (AY c l).2.1:=by
  have hlt:=Ih h
  rw[Ij]
  unfold AY
  simp only[h,if_true]
  generalize hn:(l.takeWhile (· !=c)).length=n at *
  have w:wr .i64 ((n:Int)+(([c]:List UInt8).length:Int))=((n+1:Nat):Int):=by rw[BF (by simp<;>omega)];simp
  have w0:wr .i64 ((n:Int)+0)=(n:Int):=by rw[BF (by omega)];omega
  rw[w,w0,show(0:Int)=((0:Nat):Int)from rfl,CR l 0 n (by omega) (by omega),CR l (n+1) l.length (by omega) (by omega)]
  rw[List.drop_zero,Nat.sub_zero,←hn,JK,List.take_of_length_le (by simp),←List.drop_drop,MZ]
  exact⟨rfl,rfl⟩
theorem ACw{c:UInt8}{a0:List UInt8}{j3:Int}{M:Nat} (k10:List UInt8×Int×List (List UInt8)→Option (List (List UInt8)))
    (hE:(if(wr .i64 ((a0.length:Int)+1))<j3 then(wr .i64 ((a0.length:Int)+1))else j3)=((M:Nat):Int)) (hM:M≤2000000):
    ∀(k:Nat) (s:List UInt8) (done:List (List UInt8)),s.count c=k→s.length≤1000000→done.length+k+1≤M→
      ∃pre last,pre++[last]=done++AP c s∧pre.length=done.length+k∧BU N a0 [c] 0 j3 k10 k (done.length:Int) s (done++List.replicate (k+1) [])=k10 (last,((done.length+k:Nat):Int),pre++[[]])
  | 0,s,done,hc,hs,hd=>by
    have h0:=Lb.1 hc
    refine⟨done,s,?_,rfl,?_⟩
    · rw[IC,MU h0];rfl
    · rw[BU];rfl
  | k+1,s,done,hc,hs,hd=>by
    have h1:s.contains c=true:=by
      cases h:s.contains c
      · have:=Lb.2 h;omega
      · rfl
    obtain⟨s1,s2⟩:=Xo h1 hs
    have hcb:=Qt h1
    have hc1:(AY c s).2.1=(s.dropWhile (· !=c)).drop 1:=by rw[ED h1]
    rw[←hc1]at hcb
    have hl:=Es c s
    obtain⟨pre,last,p1,p2,p3⟩:=ACw (c:=c) k10 hE hM k (AY c s).2.1 (done++[(AY c s).1]) (by omega) (by omega) (by simp;omega)
    refine⟨pre,last,?_,by rw[p2];simp;omega,?_⟩
    · rw[p1,IC c s,if_pos (by rw[ED h1])];simp
    · rw[BU,V6,Option.bind_some,if_neg (by rw[Ij,if_pos h1];simp),s1,Option.bind_some,hE,AZ (by constructor<;>omega),AZ (by simp),s2,Option.bind_some]
      have e1:(done++List.replicate (k+1+1) ([]:List UInt8)).set (done.length:Int).toNat (AY c s).1=(done++[(AY c s).1])++List.replicate (k+1) []:=by
        rw[Int.toNat_natCast,List.set_append_right _ _ (Nat.le_refl _),Nat.sub_self,List.replicate_succ,List.set_cons_zero];simp
      rw[e1]
      have e2:(done.length:Int)+1=(((done++[(AY c s).1]).length:Nat):Int):=by simp
      rw[e2,p3]
      congr 2
      simp;omega
theorem Qm (l:List UInt8) (c:UInt8) (hb:l.length≤1000000):strings_Split N l [c]=some (AP c l):=by
  have hcl:l.count c≤l.length:=List.count_le_length
  have hcnt:strings_Count N l [c]=some ((l.count c:Nat):Int):=by
    unfold strings_Count
    rw[if_neg (by exact Bool.false_ne_true),if_pos (by rfl),show idx [c] 0=some c from rfl,Option.bind_some,IM]
    rfl
  unfold strings_Split strings_genSplit
  dsimp only[AL]
  rw[if_neg (by decide),if_neg (by simp),if_pos (by decide),hcnt,Option.bind_some]
  have w1:wr .i64 (((l.count c:Nat):Int)+1)=((l.count c+1:Nat):Int):=by rw[BF (by omega)];simp
  have w2:wr .i64 ((l.length:Int)+1)=((l.length+1:Nat):Int):=by rw[BF (by omega)];simp
  rw[w1]
  have hE:(if(wr .i64 ((l.length:Int)+1))<((l.count c+1:Nat):Int)then(wr .i64 ((l.length:Int)+1))else((l.count c+1:Nat):Int))=((l.count c+1:Nat):Int):=by rw[w2,if_neg (by omega)]
  obtain⟨pre,last,p1,p2,p3⟩:=ACw (N:=N) (c:=c) (a0:=l) (j3:=((l.count c+1:Nat):Int)) (M:=l.count c+1) (fun j9:(List UInt8)×Int×(List (List UInt8))=>
     grd (0≤j9.2.1∧j9.2.1<((if(wr .i64 ((l.length:Int)+1))<((l.count c+1:Nat):Int)then(wr .i64 ((l.length:Int)+1))else((l.count c+1:Nat):Int)).toNat:Int)) (
     grd (j9.2.1.toNat+1≤j9.2.2.length) (
     grd (0≤(wr .i64 (j9.2.1+1))∧(wr .i64 (j9.2.1+1))≤((if(wr .i64 ((l.length:Int)+1))<((l.count c+1:Nat):Int)then(wr .i64 ((l.length:Int)+1))else((l.count c+1:Nat):Int)).toNat:Int)) (
     grd ((wr .i64 (j9.2.1+1)).toNat≤j9.2.2.length) (
     some (List.take ((wr .i64 (j9.2.1+1)).toNat) (j9.2.2.set j9.2.1.toNat j9.1))))))) hE (by omega) (l.count c) l [] rfl hb (by simp)
  have w3:(wr .i64 (((l.count c+1:Nat):Int)-1)-0).toNat=l.count c:=by rw[BF (by omega)];omega
  rw[hE]at p3⊢
  rw[AZ (by unfold QC;omega),AZ (by rw[BF (by omega)];omega),w3]
  simp only[Int.toNat_natCast]at p3⊢
  simp only[List.nil_append,List.length_nil,Nat.zero_add]at p1 p2 p3
  rw[show((0:Nat):Int)=0 from rfl]at p3
  rw[p3]
  have w4:wr .i64 (((l.count c:Nat):Int)+1)=((pre.length+1:Nat):Int):=by rw[BF (by omega),p2];simp
  rw[w4]
  simp only[Int.toNat_natCast]
  rw[AZ (by omega),AZ (by simp;omega),AZ (by omega),AZ (by simp),Option.bind_some]
  rw[←p2,List.set_append_right _ _ (Nat.le_refl _),Nat.sub_self,List.set_cons_zero,List.take_of_length_le (by simp),p1]
end
end Go.VM
