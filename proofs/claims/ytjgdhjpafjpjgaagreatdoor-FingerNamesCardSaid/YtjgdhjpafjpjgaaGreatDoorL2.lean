import Derived.Test.YtjgdhjpafjpjgaaGreatDoorL1
set_option linter.unusedVariables false
set_option linter.unusedSimpArgs false
namespace Go.VM
section
variable{N:Nat}
def preB (p l:List UInt8):Bool:=if p.length≤l.length then l.take p.length==p else false
theorem AOF (p l:List UInt8):BG N l p=some (preB p l):=by
  unfold BG preB
  by_cases h:p.length≤l.length
  · rw[if_pos (by simp;omega),if_pos h,show(0:Int)=((0:Nat):Int)from rfl,CV l 0 _ (Nat.zero_le _) h,Option.bind_some];simp
  · rw[if_neg (by simp;omega),if_neg h]
theorem SV (p l:List UInt8):strings_HasPrefix N l p=some (preB p l):=by
  unfold strings_HasPrefix;rw[AOF];rfl
theorem Oc (p l:List UInt8):EE N l p=some (preB p l):=by
  unfold EE preB
  by_cases h:p.length≤l.length
  · rw[if_pos (by simp;omega),if_pos h,show(0:Int)=((0:Nat):Int)from rfl,CV l 0 _ (Nat.zero_le _) h,Option.bind_some];simp
  · rw[if_neg (by simp;omega),if_neg h]
theorem SG{p l:List UInt8} (h:preB p l=true): ∃t,l=p++t:=by
  unfold preB at h
  split at h
  · have:=beq_iff_eq.1 h
    exact⟨l.drop p.length,by conv=>lhs;rw[←List.take_append_drop p.length l,this]⟩
  · cases h
theorem Bi{l:List UInt8}{n:Nat} (h:n≤l.length):sub l (n:Int) (l.length:Int)=some (l.drop n):=by
  rw[CV l n l.length h (Nat.le_refl _),List.take_of_length_le (by simp)]
theorem ACq (p l:List UInt8):strings_TrimPrefix N l p=some (if preB p l=true then l.drop p.length else l):=by
  unfold strings_TrimPrefix Ch
  rw[AOF,Option.bind_some]
  by_cases h:preB p l=true
  · obtain⟨t,rfl⟩:=SG h
    rw[if_pos h,if_pos h,Bi (by simp),Option.bind_some,Option.bind_some]
  · rw[if_neg h,if_neg h];rfl
theorem AIR (p l:List UInt8):strings_CutPrefix N l p=some (if preB p l=true then(l.drop p.length,true)else(l,false)):=by
  unfold strings_CutPrefix Cv
  rw[AOF,Option.bind_some]
  by_cases h:preB p l=true
  · obtain⟨t,rfl⟩:=SG h
    rw[if_pos h,if_pos h,Bi (by simp),Option.bind_some,Option.bind_some]
  · rw[if_neg h,if_neg h];rfl
def NH (l:List UInt8):Nat→Option Nat
  |0=>none
  |n+1=>if l[n]?=some 47 then some n else NH l n
theorem UC{l:List UInt8}{i:Nat}: ∀ {n:Nat},NH l n=some i→i<n
  |0,h=>by cases h
  | n+1,h=>by
    rw[NH]at h
    split at h
    · cases h;omega
    · have:=UC h;omega
theorem b47 (c:UInt8):(AL c==47)=decide (c=47):=by
  have:=Be (f:=fun n=>((n:Int)==47)) (g:=fun n=>decide (UInt8.ofNat n=47)) (by kernel_rfl) c
  simp only[UInt8.ofNat_toNat]at this
  exact this
theorem Ve{l:List UInt8} (hb:l.length≤1000000): ∀(n k:Nat),n≤l.length→n<k→
    Ae N l 47 (fun _=>some (-1)) k ((n:Int)-1)=some (match NH l n with|some i=>(i:Int)|none=> -1)
  |n,0,_,h=>by omega
  |0,k+1,_,_=>by rw[Ae,if_neg (by decide)];rfl
  | n+1,k+1,hn,hk=>by
    rw[Ae,if_pos (by simp),show((n+1:Nat):Int)-1=(n:Int) by omega,IR,List.getElem?_eq_getElem (by omega),Option.bind_some,b47,NH,List.getElem?_eq_getElem (by omega)]
    by_cases h:l[n]=47
    · rw[decide_eq_true h,if_pos rfl,if_pos (by rw[h])]
    · rw[decide_eq_false h,if_neg (by decide),if_neg (by simpa using h),BH (by omega)]
      exact Ve hb n k (by omega) (by omega)
theorem ALX (l:List UInt8) (hb:l.length≤1000000) (hN:l.length<N):strings_LastIndexByte N l 47=some (match NH l l.length with|some i=>(i:Int)|none=> -1):=by
  unfold strings_LastIndexByte Bp
  rw[AJ,BH (by omega),Ve hb l.length N (Nat.le_refl _) hN];rfl
def Gf (l:List UInt8):List UInt8:=match NH l l.length with|some i=>l.take i|none=>[]
theorem TP{l:List UInt8} (hb:l.length≤1000000): ∀(n k:Nat),n≤l.length→n<k→
    Dq N l (fun _=>some []) k ((n:Int)-1)=some (match NH l n with|some i=>l.take i|none=>[])
  |n,0,_,h=>by omega
  |0,k+1,_,_=>by rw[Dq,if_neg (by decide)];rfl
  | n+1,k+1,hn,hk=>by
    rw[Dq,if_pos (by simp),show((n+1:Nat):Int)-1=(n:Int) by omega,IR,List.getElem?_eq_getElem (by omega),Option.bind_some,b47,NH,List.getElem?_eq_getElem (by omega)]
    by_cases h:l[n]=47
    · rw[decide_eq_true h,if_pos rfl,if_pos (by rw[h]),show(0:Int)=((0:Nat):Int)from rfl,CV l 0 n (Nat.zero_le _) (by omega),Option.bind_some];simp
    · rw[decide_eq_false h,if_neg (by decide),if_neg (by simpa using h),BH (by omega)]
      exact TP hb n k (by omega) (by omega)
theorem Vn (l:List UInt8) (hb:l.length≤1000000) (hN:l.length<N):Gc N l=some (Gf l):=by
  unfold Gc Gf
  rw[AJ,BH (by omega),TP hb l.length N (Nat.le_refl _) hN]
def Jh (s:List UInt8):Nat:=1+((s.drop 1).takeWhile (· !=47)).length
def IJ:Nat→List UInt8→List UInt8→List UInt8
  |0,_,_=>[]
  | k+1,s,out=>
    if s=[]then out
    else if preB [46,46,47] s=true then IJ k (s.drop 3) out
    else if preB [46,47] s=true then IJ k (s.drop 2) out
    else if preB [47,46,47] s=true then IJ k (s.drop 2) out
    else if s=[47,46]then IJ k [47] out
    else if preB [47,46,46,47] s=true then IJ k (s.drop 3) (Gf out)
    else if s=[47,46,46]then IJ k [47] (Gf out)
    else if s=[46]∨s=[46,46]then IJ k [] out
    else IJ k (s.drop (Jh s)) (out++s.take (Jh s))
theorem OP (l:List UInt8):(Gf l).length≤l.length:=by
  unfold Gf;split<;>simp<;>omega
theorem AO2{s:List UInt8} (h:s≠ []):Jh s≤s.length:=by
  cases s with
  |nil=>exact absurd rfl h
  |cons c t=>unfold Jh;have:=MG (· !=(47:UInt8)) t;simp only[List.drop_one,List.tail_cons,List.length_cons];omega
theorem KY{p l:List UInt8} (h:preB p l=true):p.length≤l.length:=by
  obtain⟨t,rfl⟩:=SG h;simp
theorem Hf (hN:20000≤N) (k2:List UInt8→Option (List UInt8)): ∀(k:Nat) (s out:List UInt8),s.length<k→s.length+out.length≤16400→Ap N k2 k s out=k2 (IJ k s out)
  |0,s,out,h,_=>by omega
  | k + 1, s,out,hk,hb=>by
    rw[Ap,IJ]
    by_cases h0:s=[]
    · rw[if_pos (by simpa using h0),if_pos h0]
    have hpos:0<s.length:=List.length_pos_iff.2 h0
    have hso:=OP out
    rw[if_neg (by simpa using h0),if_neg h0,Oc,Option.bind_some]
    by_cases h1:preB [46,46,47] s=true
    · have:=KY h1;simp only[List.length_cons,List.length_nil]at this
      rw[if_pos h1,if_pos h1,show(3:Int)=((3:Nat):Int)from rfl,Bi (by omega),Option.bind_some]
      exact Hf hN k2 k _ out (by simp;omega) (by simp;omega)
    rw[if_neg h1,if_neg h1,Oc,Option.bind_some]
    by_cases h2:preB [46,47] s=true
    · have:=KY h2;simp only[List.length_cons,List.length_nil]at this
      rw[if_pos h2,if_pos h2,show(2:Int)=((2:Nat):Int)from rfl,Bi (by omega),Option.bind_some]
      exact Hf hN k2 k _ out (by simp;omega) (by simp;omega)
    rw[if_neg h2,if_neg h2,Oc,Option.bind_some]
    by_cases h3:preB [47,46,47] s=true
    · have:=KY h3;simp only[List.length_cons,List.length_nil]at this
      rw[if_pos h3,if_pos h3,show(2:Int)=((2:Nat):Int)from rfl,Bi (by omega),Option.bind_some]
      exact Hf hN k2 k _ out (by simp;omega) (by simp;omega)
    rw[if_neg h3,if_neg h3]
    by_cases h4:s=[47,46]
    · rw[if_pos (by simpa using h4),if_pos h4]
      have:=congrArg List.length h4;simp only[List.length_cons,List.length_nil]at this
      exact Hf hN k2 k _ out (by simp;omega) (by simp;omega)
    rw[if_neg (by simpa using h4),if_neg h4,Oc,Option.bind_some]
    by_cases h5:preB [47,46,46,47] s=true
    · have:=KY h5;simp only[List.length_cons,List.length_nil]at this
      rw[if_pos h5,if_pos h5,show(3:Int)=((3:Nat):Int)from rfl,Bi (by omega),Option.bind_some,Vn out (by omega) (by omega),Option.bind_some]
      exact Hf hN k2 k _ _ (by simp;omega) (by simp;omega)
    rw[if_neg h5,if_neg h5]
    by_cases h6:s=[47,46,46]
    · rw[if_pos (by simpa using h6),if_pos h6,Vn out (by omega) (by omega),Option.bind_some]
      have:=congrArg List.length h6;simp only[List.length_cons,List.length_nil]at this
      exact Hf hN k2 k _ _ (by simp;omega) (by simp;omega)
    rw[if_neg (by simpa using h6),if_neg h6]
    dsimp only[AJ]
    have hdd:(if(s==([46]:List UInt8))=true then Ap N k2 k [] out else if(s==([46,46]:List UInt8))=true then Ap N k2 k [] out else Option.bind (sub s 1 (s.length:Int)) fun x26=>
           Option.bind (BX N x26 ([47]:List UInt8)) fun y27=>
           Option.bind (sub s (wr .i64 (1+y27)) (s.length:Int)) fun x29=>
           Option.bind (sub s 0 (wr .i64 (1+y27))) fun x30=>
           grd (AV (out.length+x30.length)) (
           Ap N k2 k x29 (out++x30)))=k2 (if s=[46]∨s=[46,46]then IJ k [] out else IJ k (s.drop (Jh s)) (out++s.take (Jh s))):=by
      have hrec:=Hf hN k2 k [] out (by simp;omega) (by simp;omega)
      by_cases h7:s=[46]
      · rw[if_pos (by simpa using h7),if_pos (.inl h7)];exact hrec
      by_cases h8:s=[46,46]
      · rw[if_neg (by simpa using h7),if_pos (by simpa using h8),if_pos (.inr h8)];exact hrec
      have hw:(fun c:UInt8=>!([47]:List UInt8).contains c)=(fun c=>c !=47):=by funext c;simp[bne];rfl
      have hsl:=AO2 h0
      rw[if_neg (by simpa using h7),if_neg (by simpa using h8),if_neg (by rintro(h|h);exact h7 h;exact h8 h),show(1:Int)=((1:Nat):Int)from rfl,Bi (by omega),Option.bind_some,Ii _ [47] (by decide) (by simp;omega),Option.bind_some,hw]
      have e:wr .i64 (((1:Nat):Int)+(((s.drop 1).takeWhile (fun c=>c !=47)).length:Int))=((Jh s:Nat):Int):=by
        unfold Jh at hsl⊢;rw[BH (by omega)];omega
      rw[e,Bi hsl,Option.bind_some,show(0:Int)=((0:Nat):Int)from rfl,CV s 0 _ (Nat.zero_le _) hsl,Option.bind_some,BL (by simp;omega),List.drop_zero,Nat.sub_zero]
      have h1s:1≤Jh s:=by unfold Jh;omega
      exact Hf hN k2 k _ _ (by simp;omega) (by simp;omega)
    by_cases h7:(s==([46]:List UInt8))=true
    · rw[if_pos h7]at hdd⊢;rw[if_pos rfl];exact hdd
    · rw[if_neg h7]at hdd⊢;exact hdd
theorem AQ1 (s:List UInt8) (hN:20000≤N) (hb:s.length≤16400):Ey N s=some (IJ N s []):=by
  unfold Ey
  rw[AJ,Hf hN _ N s [] (by omega) (by simpa using hb)]
end
end Go.VM
namespace Go.VM
section
variable{N:Nat}
theorem TE (k2:Unit→Option Bool): ∀l:List UInt8,Ar N k2 l=if l.all FE=true then k2 ()else some false
  |[]=>by rw[Ar];rfl
  | c::l=>by
    rw[Ar,Pw,Option.bind_some,TE k2 l]
    cases h:FE c<;>simp[h]
theorem UQ (l:List UInt8) (hb:l.length≤2^60):Hd N l=some (!l.isEmpty&&l.all FE):=by
  unfold Hd D9
  cases l with
  |nil=>rfl
  | cons c l=>
    rw[if_neg (by exact Bool.false_ne_true),AJ,BL (by omega),TE]
    cases h:(c::l).all FE<;>simp
theorem Pv (k2:Unit→Option Bool): ∀l:List UInt8,Cr N k2 l=if l.all FE=true then k2 ()else some false
  |[]=>by rw[Cr];rfl
  | c::l=>by
    rw[Cr,Od,Option.bind_some,Pv k2 l]
    cases h:FE c<;>simp[h]
theorem AHU (l:List UInt8) (hb:l.length≤2^60):I7 N l=some (!l.isEmpty&&l.all FE):=by
  unfold I7
  rw[AJ,BL (by omega),Pv]
  cases l with
  |nil=>rfl
  |cons c l=>cases h:(c::l).all FE<;>simp
theorem ASX (k2:Unit→Option (Int×Int)): ∀l:List UInt8,DZ N 10 k2 l=if l.all FE=true then k2 ()else some (0,1)
  |[]=>by rw[DZ];rfl
  | c::l=>by
    rw[DZ,AJ,show((10:Int)==10)=true from rfl,show((10:Int)==16)=false from rfl,if_pos rfl,Od,Option.bind_some,ASX k2 l]
    cases h:FE c<;>simp[h]
theorem ASW{m:Nat} (hm:m≤2^59) (hm9:9≤m) (k9:Int→Option (Int×Int)): ∀(l:List UInt8) (n:Nat),l.all FE=true→n≤m→DU N 10 (m:Int) k9 l (n:Int)=if H6 n l≤m then k9 ((H6 n l:Nat):Int)else some (0,4)
  |[],n,_,hn=>by rw[DU,H6,if_pos hn]
  | c::l,n,h,hn=>by
    simp only[List.all_cons,Bool.and_eq_true]at h
    have hr:=AA8 h.1
    have hd:IL c.toNat≤9:=by rw[(SL h.1).2];omega
    obtain⟨hx,hv⟩:=SL h.1
    have c57: ¬(AL c>57):=by rw[IP];omega
    have hdv:wr .u64 (wr .u8 (AL c-48))=((IL c.toNat:Nat):Int):=by
      rw[IP,Vm (by omega),H8 (by omega),hv];omega
    rw[DU]
    dsimp only[AJ]
    rw[if_neg (by simpa using c57),hdv,AZ (by decide),Int.tdiv_eq_ediv_of_nonneg (by omega)]
    have w1:wr .u64 ((n:Int) * 10)=((n * 10:Nat):Int):=by rw[H8 (by omega)];simp
    have w2:wr .u64 (((n * 10:Nat):Int)+((IL c.toNat:Nat):Int))=((n * 10+IL c.toNat:Nat):Int):=by rw[H8 (by omega)];simp
    have w3:wr .u64 ((m:Int)-((IL c.toNat:Nat):Int))=(m:Int)-((IL c.toNat:Nat):Int):=H8 (by omega)
    have w4:wr .u64 ((m:Int) / 10)=(m:Int) / 10:=H8 (by omega)
    rw[w1,w2,w3,w4,H6]
    have hge:=TH l (n * 10+IL c.toNat)
    by_cases c1:(n:Int)>(m:Int) / 10
    · rw[if_pos (decide_eq_true c1),if_pos rfl,if_neg (by omega)]
    · rw[if_neg (by simpa using c1)]
      by_cases c2:((n * 10:Nat):Int)>(m:Int)-((IL c.toNat:Nat):Int)
      · rw[if_pos (decide_eq_true c2),if_pos rfl,if_neg (by omega)]
      · rw[if_neg (by simpa using c2),if_neg (by simp;omega)]
        exact ASW hm hm9 k9 l _ h.2 (by omega)
def EC (m:Nat) (l:List UInt8):Int×Int:=
  if l=[]then(0,3)else if l.all FE=true then(if 1<l.length∧l.head?=some 48 then(0,6)else if H6 0 l≤m then(((H6 0 l:Nat):Int),0)else(0,4))else(0,1)
theorem b48 (c:UInt8):(AL c==48)=decide (c=48):=by
  have:=Be (f:=fun n=>((n:Int)==48)) (g:=fun n=>decide (UInt8.ofNat n=48)) (by kernel_rfl) c
  simp only[UInt8.ofNat_toNat]at this
  exact this
theorem Tq (c:UInt8) (l:List UInt8) (e:Int×Int):(if decide (((c::l).length:Int)>1)=true then Option.bind (idx (c::l) 0) fun x=>if(AL x==48)=true then(some (0,6):Option (Int×Int))else some (e.1,e.2)else if false=true then some (0,6)else some (e.1,e.2))=some (if 1<(c::l).length∧(c::l).head?=some 48 then(0,6)else e):=by
  by_cases hl:1<(c::l).length
  · rw[if_pos (by simp only[decide_eq_true_eq];omega),show idx (c::l) 0=some c from rfl,Option.bind_some,b48]
    by_cases hc:c=48
    · rw[decide_eq_true hc,if_pos rfl,if_pos ⟨hl,by simp[hc]⟩]
    · rw[decide_eq_false hc,if_neg (by decide),if_neg (by simp[hc])]
  · rw[if_neg (by simp only[decide_eq_true_eq];omega),if_neg (by decide),if_neg (fun h=>hl h.1)]
theorem Sw{m:Nat} (hm:m≤2^59) (l:List UInt8) (hb:l.length≤2^60):Ga N l (m:Int)=some (EC m l):=by
  unfold Ga EC
  dsimp only[AJ]
  rw[UQ l hb,Option.bind_some,AKf hm l hb,Option.bind_some]
  cases l with
  |nil=>rfl
  | cons c l=>
    simp only[reduceCtorEq,if_false]
    obtain⟨b,h⟩: ∃b,(c::l).all FE=b:=⟨_,rfl⟩
    rw[h]
    cases b
    · rw[if_neg (by simp),if_neg (by decide)];rfl
    · rw[if_pos (by rfl),if_pos rfl,if_pos rfl]
      have hd: ∀e:Int×Int,(if decide (((c::l).length:Int)>1)=true then Option.bind (idx (c::l) 0) fun x=>if(AL x==48)=true then(some (0,6):Option (Int×Int))else some (e.1,e.2)else if false=true then some (0,6)else some (e.1,e.2))=some (if 1<(c::l).length∧(c::l).head?=some 48 then(0,6)else e):=Tq c l
      by_cases hv:H6 0 (c::l)≤m
      · rw[if_pos hv];exact hd (((H6 0 (c::l):Nat):Int),0)
      · rw[if_neg hv];exact hd (0,4)
theorem TI{m:Nat} (hm:m≤2^59) (hm9:9≤m) (l:List UInt8) (hb:l.length≤2^60):Ha N l (m:Int)=some (EC m l):=by
  have hp:J5 N l 10 (m:Int)=some (if l=[]then(0,3)else if l.all FE=true then(if H6 0 l≤m then(((H6 0 l:Nat):Int),0)else(0,4))else(0,1)):=by
    unfold J5
    by_cases h:l=[]
    · subst h;rfl
    · rw[if_neg (by simpa using h),if_neg h,AJ,BL (by omega),ASX]
      by_cases h1:l.all FE=true
      · rw[if_pos h1,if_pos h1,AJ,BL (by omega),show(0:Int)=((0:Nat):Int)from rfl,ASW hm hm9 _ l 0 h1 (by omega)]
        split<;>rfl
      · rw[if_neg h1,if_neg h1]
  unfold Ha EC
  rw[hp,Option.bind_some]
  dsimp only[AJ]
  cases l with
  |nil=>rfl
  | cons c l=>
    simp only[reduceCtorEq,if_false]
    obtain⟨b,h⟩: ∃b,(c::l).all FE=b:=⟨_,rfl⟩
    rw[h]
    cases b
    · rfl
    · simp only[if_true]
      have hd:=Tq c l
      by_cases hv:H6 0 (c::l)≤m
      · rw[if_pos hv,if_pos (by rfl)];exact hd (((H6 0 (c::l):Nat):Int),0)
      · rw[if_neg hv,if_neg (by exact Bool.false_ne_true),if_pos (by rfl)];exact hd (0,4)
end
end Go.VM
namespace Go.VM
section
variable{N:Nat}
def AAm (c:UInt8):Bool:=JP c||(FE c||decide (c=45))
theorem b45 (c:UInt8):(AL c==45)=decide (c=45):=by
  have:=Be (f:=fun n=>((n:Int)==45)) (g:=fun n=>decide (UInt8.ofNat n=45)) (by kernel_rfl) c
  simp only[UInt8.ofNat_toNat]at this
  exact this
theorem Vy (k8:Unit→Option Bool): ∀l:List UInt8,D5 N k8 l=if l.all AAm=true then k8 ()else some false
  |[]=>by rw[D5];rfl
  | c::l=>by
    rw[D5,AJ,RB,Option.bind_some,Pw,Option.bind_some,bne,b45,Vy k8 l,List.all_cons]
    unfold AAm
    cases JP c<;>cases FE c<;>cases decide (c=45)<;>simp
theorem VI (k2:Unit→Option Bool): ∀l:List UInt8,DV N k2 l=if l.all AAm=true then k2 ()else some false
  |[]=>by rw[DV];rfl
  | c::l=>by
    rw[DV,AJ,OT,Option.bind_some,Od,Option.bind_some,bne,b45,VI k2 l,List.all_cons]
    unfold AAm
    cases JP c<;>cases FE c<;>cases decide (c=45)<;>simp
def JB (l:List UInt8):Bool:=!l.isEmpty&&(decide (l.length≤63)&&(decide (l.head?≠some 45)&&(decide (l.getLast?≠some 45)&&l.all AAm)))
theorem VO{c:UInt8}{l:List UInt8} (hb:(c::l).length≤2^60): ∃d,(c::l).getLast?=some d∧idx (c::l) (wr .i64 (((c::l).length:Int)-1))=some d:=by
  have hne:(c::l)≠ []:=by simp
  refine⟨(c::l).getLast hne,List.getLast?_eq_some_getLast hne,?_⟩
  rw[show wr .i64 (((c::l).length:Int)-1)=(((c::l).length-1:Nat):Int) by simp only[List.length_cons]at hb⊢;rw[BH (by omega)];omega,IR,←List.getLast?_eq_getElem?,List.getLast?_eq_some_getLast hne]
theorem AIo (l:List UInt8) (hb:l.length≤2^60):K4 N l=some (JB l):=by
  unfold K4 JB
  dsimp only[AJ]
  cases l with
  |nil=>rfl
  | cons c l=>
    obtain⟨d,h1,h2⟩:=VO hb
    rw[if_neg (by exact Bool.false_ne_true),h2,h1,show idx (c::l) 0=some c from rfl,Option.bind_some,Option.bind_some,b45,b45,BL (by omega),Vy]
    by_cases hl:(c::l).length≤63
    · rw [if_neg (by simp only[decide_eq_true_eq];omega),decide_eq_true hl]
      by_cases hc:c=45
      · rw[decide_eq_true hc,if_pos rfl,if_pos rfl];simp[hc]
      · rw[decide_eq_false hc,if_neg (by decide)]
        by_cases hd:d=45
        · rw[decide_eq_true hd,if_pos rfl];simp[hd]
        · rw[decide_eq_false hd,if_neg (by decide)]
          obtain⟨b,hb2⟩: ∃b,(c::l).all AAm=b:=⟨_,rfl⟩
          rw[hb2];cases b<;>simp[hc,hd]
    · rw[if_pos (by simp only[decide_eq_true_eq];omega),if_pos rfl,decide_eq_false hl];simp
theorem AJm (l:List UInt8) (hb:l.length≤2^60):J8 N l=some (JB l):=by
  unfold J8 JB
  dsimp only[AJ]
  rw[BL (by omega),VI]
  cases l with
  |nil=>rfl
  | cons c l=>
    obtain⟨d,h1,h2⟩:=VO hb
    obtain⟨b,hb2⟩: ∃b,(c::l).all AAm=b:=⟨_,rfl⟩
    rw[if_neg (c:=((c::l==[])=true)) (by exact Bool.false_ne_true),h2,h1,show idx (c::l) 0=some c from rfl,Option.bind_some,Option.bind_some,bne,bne,b45,b45,hb2]
    cases b
    · simp
    · rw [if_pos rfl]
      by_cases hl:(c::l).length≤63
      · rw[if_pos (by simp only[decide_eq_true_eq];omega),decide_eq_true hl]
        by_cases hc:c=45
        · rw[decide_eq_true hc,if_neg (by decide)];simp[hc]
        · rw[decide_eq_false hc,if_pos (by decide)]
          by_cases hd:d=45<;>simp[hc,hd]
      · rw[if_neg (by simp only[decide_eq_true_eq];omega),decide_eq_false hl];simp
end
end Go.VM
namespace Go.VM
def AU (c:UInt8):List UInt8→List (List UInt8)
  |[]=>[[]]
  |x::t=>if x=c then []::AU c t else(match AU c t with|p::ps=>(x::p)::ps|[]=>[[x]])
theorem Br (c:UInt8): ∀l:List UInt8,AU c l≠ []
  |[]=>by simp[AU]
  | x::t=>by
    rw[AU]
    split
    · simp
    · split<;>simp
def AHi (cur:List UInt8):List (List UInt8)→List (List UInt8)
  |p::ps=>(cur++p)::ps
  |[]=>[cur]
theorem AKG{c x:UInt8}{t cur:List UInt8} (h: ¬x=c):AHi cur (AU c (x::t))=AHi (cur++[x]) (AU c t):=by
  rw[AU,if_neg h]
  cases hs:AU c t with
  |nil=>exact absurd hs (Br c t)
  |cons p ps=>simp[AHi]
theorem FV (c:UInt8): ∀l:List UInt8,(AU c l).length≤l.length+1
  |[]=>by simp[AU]
  | x::t=>by
    have:=FV c t
    rw[AU]
    split
    · simp only[List.length_cons];omega
    · split
      · rename_i h;rw[h]at this;simp only[List.length_cons]at this⊢;omega
      · simp
theorem Eo (c:UInt8): ∀(l p:List UInt8),p∈AU c l→p.length≤l.length
  |[],p,h=>by simp[AU]at h;subst h;simp
  | x::t,p,h=>by
    rw[AU]at h
    split at h
    · rcases List.mem_cons.1 h with rfl|h
      · simp
      · have:=Eo c t p h;simp only[List.length_cons];omega
    · split at h
      · rename_i q qs hq
        rcases List.mem_cons.1 h with rfl|h
        · have:=Eo c t q (by rw[hq];simp);simp only[List.length_cons];omega
        · have:=Eo c t p (by rw[hq];simp[h]);simp only[List.length_cons];omega
      · simp only[List.mem_singleton]at h;subst h;simp
section
variable{N:Nat}
theorem AVL (x c:UInt8):(AL x==AL c)=decide (x=c):=by
  by_cases e:x=c
  · subst e;simp
  · have: ¬x.toNat=c.toNat:=fun h=>e (UInt8.toNat_inj.1 h)
    rw[decide_eq_false e]
    simp only[AL,beq_eq_false_iff_ne,ne_eq];omega
theorem NT (l:List UInt8) (c:UInt8) (hb:l.length≤1000000): ∀(t pre cur:List UInt8) (out:List (List UInt8)),l=pre++(cur++t)→out.length≤pre.length+cur.length→
    DT N l (AL c) (fun j1=>Option.bind (sub l j1.2 (l.length:Int)) fun x11=>grd (Cg (j1.1.length+1) 16) (some (j1.1++[x11]))) t ((pre.length+cur.length:Nat):Int) out (pre.length:Int)=some (out++AHi cur (AU c t))
  | [],pre,cur,out,h,ho=>by
    have hl:=congrArg List.length h
    simp only[List.length_append,List.length_nil]at hl
    rw[DT]
    dsimp only
    rw[CV l pre.length l.length (by omega) (by omega),Option.bind_some,AZ (by unfold Cg;omega),h,List.drop_left]
    simp[AU,AHi]
  | x::t,pre,cur,out,h,ho=>by
    have hl:=congrArg List.length h
    simp only[List.length_append,List.length_cons]at hl
    rw[DT,AJ,AVL]
    by_cases e:x=c
    · rw[decide_eq_true e,if_pos rfl,CV l pre.length (pre.length+cur.length) (by omega) (by omega),Option.bind_some,AZ (by unfold Cg;omega)]
      dsimp only
      have:=NT l c hb t (pre++cur++[x]) [] (out++[cur]) (by rw[h];simp) (by simp only[List.length_append,List.length_cons,List.length_nil];omega)
      have e1:(l.drop pre.length).take (pre.length+cur.length-pre.length)=cur:=by
        rw[h,List.drop_left,show pre.length+cur.length-pre.length=cur.length by omega,List.take_left]
      rw[e1,AU,if_pos e]
      rw[show(((pre++cur++[x]).length+([]:List UInt8).length:Nat):Int)=((pre.length+cur.length:Nat):Int)+1 by simp only[List.length_append,List.length_cons,List.length_nil];omega,show(((pre++cur++[x]).length:Nat):Int)=((pre.length+cur.length:Nat):Int)+1 by simp only[List.length_append,List.length_cons,List.length_nil];omega]at this
      rw[this]
      cases hs:AU c t with
      |nil=>exact absurd hs (Br c t)
      |cons p ps=>simp[AHi]
    · rw[decide_eq_false e,if_neg (by decide),AKG e]
      dsimp only
      have:=NT l c hb t pre (cur++[x]) out (by rw[h];simp) (by simp only[List.length_append,List.length_cons,List.length_nil];omega)
      rw[show((pre.length+(cur++[x]).length:Nat):Int)=((pre.length+cur.length:Nat):Int)+1 by simp only[List.length_append,List.length_cons,List.length_nil];omega]at this
      exact this
theorem Km (l:List UInt8) (c:UInt8) (hb:l.length≤1000000):Ea N l (AL c)=some (AU c l):=by
  unfold Ea
  rw[AJ,BL (by omega)]
  have:=NT (N:=N) l c hb l [] [] [] rfl (by simp)
  refine this.trans ?_
  cases hs:AU c l with
  |nil=>exact absurd hs (Br c l)
  |cons p ps=>simp[AHi]
end
end Go.VM
namespace Go.VM
theorem Ie (c:UInt8): ∀l:List UInt8,AU c l=if(Aa c l).2.2=true then(Aa c l).1::AU c (Aa c l).2.1 else [(Aa c l).1]
  |[]=>by simp[AU,Aa]
  | x::t=>by
    have ih:=Ie c t
    rw[AU]
    unfold Aa at ih⊢
    by_cases e:x=c
    · subst e;simp
    · have e1:(c==x)=false:=by simpa using fun h:c=x=>e h.symm
      have e3:(x !=c)=true:=by simpa using e
      rw[if_neg e,List.contains_cons,e1,Bool.false_or,List.takeWhile_cons,e3]
      cases hc:t.contains c
      · rw[hc]at ih;simp only[Bool.false_eq_true,if_false]at ih⊢;rw[ih]
      · rw[hc]at ih;simp only[if_true]at ih⊢;rw[ih,List.dropWhile_cons,e3];simp
section
variable{N:Nat}
def AUX (l:List UInt8):Bool:=!l.isEmpty&&l.all FE
def NS (l:List UInt8):Bool:=(AU 46 l).all JB&&!AUX ((AU 46 l).getLast (Br 46 l))
theorem AIh (l:List UInt8):NS l=(JB (Aa 46 l).1&&if(Aa 46 l).2.2=true then NS (Aa 46 l).2.1 else !AUX (Aa 46 l).1):=by
  have h:=Ie 46 l
  unfold NS
  cases hc:(Aa 46 l).2.2
  · rw[hc]at h;simp only[Bool.false_eq_true,if_false]at h⊢
    simp[h]
  · rw[hc]at h;simp only[if_true]at h⊢
    have: ∀(a:List (List UInt8)) (b:List UInt8) (r:List (List UInt8)) (hr:r≠ []) (ha:a≠ []),a=b::r→a.getLast ha=r.getLast hr:=fun a b r hr ha e=>by subst e;rw[List.getLast_cons hr]
    rw[this _ _ _ (Br 46 _) (Br 46 l) h]
    rw[show(AU 46 l).all JB=(JB (Aa 46 l).1&&(AU 46 (Aa 46 l).2.1).all JB) by rw[h,List.all_cons]]
    rw[Bool.and_assoc]
theorem AO6{c:UInt8}{l:List UInt8} (h:(Aa c l).2.2=true):(Aa c l).2.1.length<l.length:=by
  unfold Aa at h⊢
  cases hc:l.contains c
  · rw[hc]at h;simp at h
  · have h1:=JG hc
    have h2:(l.takeWhile (· !=c)).length+(l.dropWhile (· !=c)).length=l.length:=by rw[←List.length_append,List.takeWhile_append_dropWhile]
    simp only[if_true,List.length_drop];omega
theorem AQY (c:UInt8) (l:List UInt8):(Aa c l).1.length≤l.length:=by
  unfold Aa
  split
  · exact MG _ l
  · exact Nat.le_refl _
theorem UA: ∀(k:Nat) (l:List UInt8),l.length<k→l.length≤2^60→GH N k l=some (NS l)
  |0,l,h,_=>by omega
  | k+1,l,h,hb=>by
    have h1:=AQY 46 l
    rw[GH,Ms 46 l hb,Option.bind_some,AIo _ (by omega),Option.bind_some,AIh l]
    cases JB (Aa 46 l).1
    · rfl
    · rw[if_pos rfl,Bool.true_and]
      cases hc:(Aa 46 l).2.2
      · rw[if_neg (by decide),UQ _ (by omega),Option.bind_some];rfl
      · have:=AO6 hc
        rw[if_pos rfl,if_pos rfl]
        exact UA k _ (by omega) (by omega)
theorem ANA (l:List UInt8) (hN:l.length<N) (hb:l.length≤2^60):OV N l=some (NS l):=UA N l hN hb
theorem Sq (k4:Unit→Option Bool): ∀ps:List (List UInt8),(∀p,p∈ps→p.length≤2^60)→D8 N k4 ps=if ps.all JB=true then k4 ()else some false
  |[],_=>by rw[D8];rfl
  | p::ps,h=>by
    rw[D8,AJm p (h p (by simp)),Option.bind_some,Sq k4 ps fun q hq=>h q (by simp[hq]),List.all_cons]
    cases JB p<;>simp
theorem AO5 (l:List UInt8) (hb:l.length≤1000000):LJ N l=some (NS l):=by
  have hl:=FV 46 l
  have hp:=Eo 46 l
  have hne:=Br 46 l
  unfold LJ
  rw[show(46:Int)=AL 46 from rfl,Km l 46 hb,Option.bind_some]
  dsimp only[AJ]
  rw[BL (by omega),Sq _ _ fun p h=>by have:=hp p h;omega]
  have hlast:idx (AU 46 l) (wr .i64 (((AU 46 l).length:Int)-1))=some ((AU 46 l).getLast hne):=by
    have:0<(AU 46 l).length:=List.length_pos_iff.2 hne
    rw[show wr .i64 (((AU 46 l).length:Int)-1)=(((AU 46 l).length-1:Nat):Int) by rw[BH (by omega)];omega,IR,←List.getLast?_eq_getElem?,List.getLast?_eq_some_getLast hne]
  have:=hp _ (List.getLast_mem hne)
  rw[hlast,Option.bind_some,AHU _ (by omega),Option.bind_some]
  unfold NS
  cases (AU 46 l).all JB
  · rfl
  · rfl
def UO (l:List UInt8):Bool:=decide ((AU 46 l).length=4)&&(AU 46 l).all fun p=>(EC 255 p).2==0
theorem VS (k4:Unit→Option Bool): ∀ps:List (List UInt8),(∀p,p∈ps→p.length≤2^60)→Cm N k4 ps=if(ps.all fun p=>(EC 255 p).2==0)=true then k4 ()else some false
  |[],_=>by rw[Cm];rfl
  | p::ps,h=>by
    rw[Cm,show(255:Int)=((255:Nat):Int)from rfl,TI (by decide) (by decide) p (h p (by simp)),Option.bind_some,VS k4 ps fun q hq=>h q (by simp[hq]),List.all_cons]
    cases hx:((EC 255 p).2==0)<;>simp[bne,hx]
theorem AIO (l:List UInt8) (hb:l.length≤1000000):Hg N l=some (UO l):=by
  have hl:=FV 46 l
  have hp:=Eo 46 l
  unfold Hg
  rw[show(46:Int)=AL 46 from rfl,Km l 46 hb,Option.bind_some]
  dsimp only[AJ]
  rw[BL (by omega),VS _ _ fun p h=>by have:=hp p h;omega]
  unfold UO
  have e:(((AU 46 l).length:Int)==4)=decide ((AU 46 l).length=4):=by
    by_cases h:(AU 46 l).length=4
    · rw[decide_eq_true h,h];rfl
    · rw[decide_eq_false h];simp;omega
  rw[e]
  cases ((AU 46 l).all fun p=>(EC 255 p).2==0)<;>simp
end
end Go.VM
namespace Go.VM
section
variable{N:Nat}
theorem VP (l:List UInt8) (hb:l.length≤2^60) (k2:List Int→Option (List UInt8)): ∀(t pre:List UInt8),l=pre++t→DN N l k2 t (pre.length:Int) (List.map AL (pre.map Dn)++List.map AL t)=k2 (List.map AL (l.map Dn))
  |[],pre,h=>by rw[DN,h];simp
  | c::t,pre,h=>by
    have hlen:pre.length<l.length:=by rw[h];simp
    have hc:=c.toNat_lt
    have next:=VP l hb k2 t (pre++[c]) (by rw[h];simp)
    rw[←ADH]at next
    have hi:idx (List.map AL (pre.map Dn)++List.map AL (c::t)) (pre.length:Int)=some (AL c):=by
      have:=AIa (List.map AL (pre.map Dn)) (List.map AL t) (AL c)
      simpa using this
    have hset:(List.map AL (pre.map Dn)++List.map AL (c::t)).set pre.length (AL (Dn c))=List.map AL ((pre++[c]).map Dn)++List.map AL t:=by simp
    rw[DN]
    dsimp only[AJ]
    rw[AZ (by omega),hi,Option.bind_some]
    by_cases h1:65≤c.toNat∧c.toNat≤90
    · have e:Dn c=UInt8.ofNat (c.toNat+32):=by unfold Dn AOu;rw[if_pos h1]
      have e2:AL (Dn c)=wr .u8 (AL c+32):=by
        rw[e,Vm (by simp only[AL];omega)]
        simp only[AL]
        rw[toNat_ofNat (by omega)];simp
      rw[if_pos (by have:=IP c;rw[decide_eq_true_eq];omega),if_pos (by have:=IP c;rw[decide_eq_true_eq];omega),AZ (by omega),Option.bind_some,AZ (by simp<;>omega),←e2]
      rw[show((pre.length:Nat):Int).toNat=pre.length from rfl,hset]
      exact next
    · have e:Dn c=c:=by unfold Dn AOu;rw[if_neg h1];simp
      have e3:List.map AL ((pre++[c]).map Dn)++List.map AL t=List.map AL (pre.map Dn)++List.map AL (c::t):=by simp[e]
      rw[e3]at next
      by_cases h2:65≤c.toNat
      · rw[if_pos (by have:=IP c;rw[decide_eq_true_eq];omega),if_neg (by have:=IP c;rw[decide_eq_true_eq];omega)]
        exact next
      · rw[if_neg (by have:=IP c;rw[decide_eq_true_eq];omega),if_neg (by decide)]
        exact next
theorem OO (l:List UInt8) (hb:l.length≤2^60):F9 N l=some (l.map Dn):=by
  unfold F9
  rw[AJ,AZ (by unfold AV;omega)]
  have:=VP (N:=N) l hb (fun j1=>grd (l.length≤j1.length∧AV l.length) (some (List.map FX (List.take l.length j1)))) l [] rfl
  simp only[List.map_nil,List.nil_append,List.length_nil]at this
  rw[show(0:Int)=((0:Nat):Int)from rfl,this,AZ (by unfold AV;simp;omega),List.take_of_length_le (by simp),Gw]
theorem RY (a b:List UInt8) (ha:a.length≤2^60) (hb:b.length≤2^60):Gs N a b=some (a.map Dn==b.map Dn):=by
  unfold Gs;rw[lower_eq a ha,Option.bind_some,lower_eq b hb,Option.bind_some]
theorem RQ (a b:List UInt8) (ha:a.length≤2^60) (hb:b.length≤2^60):Gy N a b=some (a.map Dn==b.map Dn):=by
  unfold Gy;rw[OO a ha,Option.bind_some,OO b hb,Option.bind_some]
def FZ (l:List UInt8):List UInt8×Int:=if l=[]then([],3)else if l.length>253 then([],5)else if(UO l||NS l)=true then(l.map Dn,0)else([],50)
theorem UF (l:List UInt8):IX N l=some (FZ l):=by
  unfold IX FZ
  by_cases h:l=[]
  · subst h;rfl
  rw[if_neg (by simpa using h),if_neg h]
  by_cases h2:l.length>253
  · rw[if_pos (by simp only[decide_eq_true_eq];omega),if_pos h2]
  rw[if_neg (by simp only[decide_eq_true_eq];omega),if_neg h2]
  dsimp only[AJ]
  rw[AIO l (by omega),Option.bind_some,AO5 l (by omega),Option.bind_some,OO l (by omega),Option.bind_some]
  cases UO l<;>cases NS l<;>rfl
end
end Go.VM
namespace Go.VM
section
variable{N:Nat}
theorem Nl (m:Nat) (l:List UInt8):0≤(EC m l).1∧(EC m l).1≤m:=by
  unfold EC
  split
  · simp
  · split
    · split
      · simp
      · split
        · exact⟨by simp only[];omega,by simp only[];omega⟩
        · simp
    · simp
def NK (l:List UInt8):Int×Int:=if((EC 65535 l).2 !=0||(EC 65535 l).1==0)=true then(0,51)else((EC 65535 l).1,0)
theorem ANw (l:List UInt8) (hb:l.length≤2^60):MI N l=some (NK l):=by
  have:=Nl 65535 l
  unfold MI NK
  rw[show(65535:Int)=((65535:Nat):Int)from rfl,Sw (by decide) l hb,Option.bind_some]
  dsimp only[AJ]
  rw[BH (by omega)]
  cases (EC 65535 l).2 !=0<;>cases (EC 65535 l).1==0<;>rfl
theorem APK (l:List UInt8) (hb:l.length≤2^60):Ko N l=some (NK l):=by
  have:=Nl 65535 l
  unfold Ko NK
  rw[show(65535:Int)=((65535:Nat):Int)from rfl,TI (by decide) (by decide) l hb,Option.bind_some]
  dsimp only[AJ]
  rw[BH (by omega)]
  cases (EC 65535 l).2 !=0<;>cases (EC 65535 l).1==0<;>rfl
def hpS (l:List UInt8):ApiHostPort×Int:=
  if((FZ (Aa 58 l).1).2 !=0)=true then(⟨[],0⟩,(FZ (Aa 58 l).1).2)
  else if(Aa 58 l).2.2=true then(if((NK (Aa 58 l).2.1).2 !=0)=true then(⟨[],0⟩,(NK (Aa 58 l).2.1).2)else(⟨(FZ (Aa 58 l).1).1,if((NK (Aa 58 l).2.1).1==443)=true then 0 else(NK (Aa 58 l).2.1).1⟩,0))
  else(⟨(FZ (Aa 58 l).1).1,0⟩,0)
theorem Nv{c:UInt8}: ∀l:List UInt8,l.contains c=false→l.takeWhile (· !=c)=l
  |[],_=>rfl
  | x::t,h=>by
    rw[List.contains_cons,Bool.or_eq_false_iff]at h
    have e:(x !=c)=true:=by simp only[bne_iff_ne,ne_eq];rintro rfl;simp at h
    rw[List.takeWhile_cons,e,if_pos rfl,Nv t h.2]
theorem AOj (l:List UInt8) (hb:l.length≤1000000):Ir N l=some (hpS l):=by
  have hw:(fun c:UInt8=>!([58]:List UInt8).contains c)=(fun c=>c !=58):=by funext c;simp[bne];rfl
  have hle:=MG (· !=(58:UInt8)) l
  have h0:sub l 0 ((l.takeWhile (· !=(58:UInt8))).length:Int)=some (l.takeWhile (· !=(58:UInt8))):=by
    have:=CV l 0 _ (Nat.zero_le _) hle
    rw[List.drop_zero,Nat.sub_zero,Ja]at this
    exact this
  unfold Ir hpS
  rw[Ii l [58] (by decide) (by omega),Option.bind_some,hw,h0,Option.bind_some,UF,Option.bind_some]
  unfold Aa
  cases hc:l.contains 58
  · have hall:l.takeWhile (· !=(58:UInt8))=l:=by
      exact Nv l hc
    simp only[Bool.false_eq_true,if_false]
    rw[hall]
    by_cases h:((FZ l).2 !=0)=true
    · rw[if_pos h,if_pos h]
    · rw[if_neg h,if_neg h,if_pos (by simp)]
  · have hlt:=JG hc
    have hd:l.drop ((l.takeWhile (· !=(58:UInt8))).length+1)=(l.dropWhile (· !=(58:UInt8))).drop 1:=by
      rw[←List.drop_drop]
      congr 1
      have e:=List.takeWhile_append_dropWhile (p:=(· !=(58:UInt8))) (l:=l)
      have e2:(l.takeWhile (· !=(58:UInt8))++l.dropWhile (· !=(58:UInt8))).drop (l.takeWhile (· !=(58:UInt8))).length=l.dropWhile (· !=(58:UInt8)):=List.drop_left
      rw[e]at e2
      exact e2
    simp only[if_true]
    by_cases h:((FZ (l.takeWhile (· !=(58:UInt8)))).2 !=0)=true
    · rw[if_pos h,if_pos h]
    · rw[if_neg h,if_neg h,if_neg (by simp;omega)]
      rw[show wr .i64 (((l.takeWhile (· !=(58:UInt8))).length:Int)+1)=(((l.takeWhile (· !=(58:UInt8))).length+1:Nat):Int) by rw[BH (by omega)];omega,CV l _ _ (by omega) (by omega),Option.bind_some,hd,List.take_of_length_le (by
        have:=congrArg List.length hd
        rw[List.length_drop]at this
        omega),APK _ (by rw[List.length_drop];have:=(List.dropWhile_sublist (· !=(58:UInt8)) (l:=l)).length_le;omega),Option.bind_some]
      dsimp only[AJ]
      by_cases hp:((NK ((l.dropWhile (· !=(58:UInt8))).drop 1)).2 !=0)=true
      · rw[if_pos hp,if_pos hp]
      · rw[if_neg hp,if_neg hp]
        split<;>rfl
end
end Go.VM
namespace Go.VM
section
variable{N:Nat}
theorem AF0{out:List UInt8}{bq:List Int} (h:List.take out.length bq=List.map AL out):List.take (Gf out).length bq=List.map AL (Gf out):=by
  have hle:=OP out
  have e:List.take (Gf out).length (List.take out.length bq)=List.take (Gf out).length bq:=by rw[List.take_take,Nat.min_eq_left hle]
  rw[←e,h]
  unfold Gf
  split
  · rename_i i hi
    have:=UC hi
    rw[List.length_take,Nat.min_eq_left (by omega),List.map_take]
  · simp
theorem APN (out:List UInt8) (v:Int) (hv:v=(match NH out out.length with|some i=>(i:Int)|none=> -1)):(if v>0 then v else 0).toNat=(Gf out).length∧0≤(if v>0 then v else 0)∧(if v>0 then v else 0)≤(out.length:Int):=by
  subst hv
  unfold Gf
  cases h:NH out out.length with
  |none=>simp
  | some i=>
    have:=UC h
    simp only[List.length_take]
    split<;>omega
theorem Ij (hN:20000≤N): ∀(k:Nat) (s out:List UInt8) (bq:List Int),s.length<k→s.length+out.length≤16380→out.length≤bq.length→List.take out.length bq=List.map AL out→
    Aj N k s out.length bq=some (IJ k s out)
  |0,s,out,bq,h,_,_,_=>by omega
  | k + 1, s,out,bq,hk,hb,hl,ht=>by
    rw[Aj,IJ]
    have hchr:List.map FX (List.take out.length bq)=out:=by rw[ht,Gw]
    have hso:=OP out
    by_cases h0:s=[]
    · rw[if_pos (by simpa using h0),if_pos h0,AZ ⟨hl,by unfold AV;omega⟩,hchr]
    have hpos:0<s.length:=List.length_pos_iff.2 h0
    rw[if_neg (by simpa using h0),if_neg h0,SV,Option.bind_some]
    by_cases h1:preB [46,46,47] s=true
    · have:=KY h1;simp only[List.length_cons,List.length_nil]at this
      rw[if_pos h1,if_pos h1,show(3:Int)=((3:Nat):Int)from rfl,Bi (by omega),Option.bind_some]
      exact Ij hN k _ out bq (by simp;omega) (by simp;omega) hl ht
    rw[if_neg h1,if_neg h1,SV,Option.bind_some]
    by_cases h2:preB [46,47] s=true
    · have:=KY h2;simp only[List.length_cons,List.length_nil]at this
      rw[if_pos h2,if_pos h2,show(2:Int)=((2:Nat):Int)from rfl,Bi (by omega),Option.bind_some]
      exact Ij hN k _ out bq (by simp;omega) (by simp;omega) hl ht
    rw[if_neg h2,if_neg h2,SV,Option.bind_some]
    by_cases h3:preB [47,46,47] s=true
    · have:=KY h3;simp only[List.length_cons,List.length_nil]at this
      rw[if_pos h3,if_pos h3,show(2:Int)=((2:Nat):Int)from rfl,Bi (by omega),Option.bind_some]
      exact Ij hN k _ out bq (by simp;omega) (by simp;omega) hl ht
    rw[if_neg h3,if_neg h3]
    by_cases h4:s=[47,46]
    · rw[if_pos (by simpa using h4),if_pos h4]
      have:=congrArg List.length h4;simp only[List.length_cons,List.length_nil]at this
      exact Ij hN k _ out bq (by simp;omega) (by simp;omega) hl ht
    rw[if_neg (by simpa using h4),if_neg h4]
    dsimp only[AJ]
    rw[SV,Option.bind_some]
    have hcut: ∀s2:List UInt8,s2.length<k→s2.length+out.length≤16380→ ∀(v:Int),v=(match NH out out.length with|some i=>(i:Int)|none=> -1)→
        grd (0≤(if v>0 then v else 0)∧(if v>0 then v else 0)≤(out.length:Int)) (Aj N k s2 ((if v>0 then v else 0).toNat) bq)=some (IJ k s2 (Gf out)):=by
      intro s2 hs2 hs3 v hv
      obtain⟨e1,e2,e3⟩:=APN out v hv
      rw[AZ ⟨e2,e3⟩,e1]
      exact Ij hN k s2 (Gf out) bq hs2 (by omega) (by omega) (AF0 ht)
    have htail: ∀s2:List UInt8,s2.length<k→s2.length+out.length≤16380→
        (grd (out.length≤bq.length∧AV out.length) (Option.bind (strings_LastIndexByte N (List.map FX (List.take out.length bq)) 47) fun y20=>
         grd (0≤(if y20>0 then y20 else 0)∧(if y20>0 then y20 else 0)≤(out.length:Int)) (Aj N k s2 ((if y20>0 then y20 else 0).toNat) bq)))=some (IJ k s2 (Gf out)):=by
      intro s2 hs2 hs3
      rw[AZ ⟨hl,by unfold AV;omega⟩,hchr,ALX out (by omega) (by omega),Option.bind_some]
      exact hcut s2 hs2 hs3 _ rfl
    by_cases h5:preB [47,46,46,47] s=true
    · obtain⟨t,rfl⟩:=SG h5
      have e3:([47,46,46,47]++t:List UInt8).drop 3=47::t:=rfl
      have ep:preB [47] (47::t)=true:=by unfold preB;simp
      simp only[List.length_append,List.length_cons,List.length_nil]at hk hb
      rw[if_pos h5,if_pos h5,if_pos rfl,show(3:Int)=((3:Nat):Int)from rfl,Bi (by simp),Option.bind_some,e3,ACq,if_pos ep,Option.bind_some,BL (by simp;omega)]
      exact htail (47::t) (by simp only[List.length_cons];omega) (by simp only[List.length_cons];omega)
    rw[if_neg h5,if_neg h5]
    by_cases h6:s=[47,46,46]
    · subst h6
      simp only[List.length_cons,List.length_nil]at hk hb
      rw[if_pos (by rfl),if_pos rfl,show(3:Int)=((3:Nat):Int)from rfl,Bi (by simp),Option.bind_some,ACq,if_neg (by decide),Option.bind_some,BL (by simp)]
      exact htail [47] (by simp only[List.length_cons,List.length_nil];omega) (by simp only[List.length_cons,List.length_nil];omega)
    rw[if_neg (by simpa using h6),if_neg h6]
    have hdd:(if(s==([46]:List UInt8))=true then Aj N k [] out.length bq else if(s==([46,46]:List UInt8))=true then Aj N k [] out.length bq else Option.bind (sub s 1 (s.length:Int)) fun x26=>
           Option.bind (strings_IndexByte N x26 47) fun y27=>
           if((wr .i64 (1+y27))==0)=true then
            Option.bind (sub s 0 (s.length:Int)) fun x33=>
            grd (out.length≤bq.length∧Cg (out.length+x33.length) 1) (
            Option.bind (sub s (s.length:Int) (s.length:Int)) fun x35=>
            Aj N k x35 (out.length+x33.length) (List.take out.length bq++List.map AL x33))
           else Option.bind (sub s 0 (wr .i64 (1+y27))) fun x33=>
            grd (out.length≤bq.length∧Cg (out.length+x33.length) 1) (
            Option.bind (sub s (wr .i64 (1+y27)) (s.length:Int)) fun x35=>
            Aj N k x35 (out.length+x33.length) (List.take out.length bq++List.map AL x33)))=some (if s=[46]∨s=[46,46]then IJ k [] out else IJ k (s.drop (Jh s)) (out++s.take (Jh s))):=by
      have hrec:=Ij hN k [] out bq (by simp;omega) (by simp;omega) hl ht
      by_cases h7:s=[46]
      · rw[if_pos (by simpa using h7),if_pos (.inl h7)];exact hrec
      by_cases h8:s=[46,46]
      · rw[if_neg (by simpa using h7),if_pos (by simpa using h8),if_pos (.inr h8)];exact hrec
      have hsl:=AO2 h0
      have h1s:1≤Jh s:=by unfold Jh;omega
      rw[if_neg (by simpa using h7),if_neg (by simpa using h8),if_neg (by rintro(h|h);exact h7 h;exact h8 h),show(1:Int)=((1:Nat):Int)from rfl,Bi (by omega),Option.bind_some,show(47:Int)=AL 47 from rfl,Jd,Option.bind_some,JC]
      have fin:(Option.bind (sub s 0 ((Jh s:Nat):Int)) fun x33=>
            grd (out.length≤bq.length∧Cg (out.length+x33.length) 1) (
            Option.bind (sub s ((Jh s:Nat):Int) (s.length:Int)) fun x35=>
            Aj N k x35 (out.length+x33.length) (List.take out.length bq++List.map AL x33)))=some (IJ k (s.drop (Jh s)) (out++s.take (Jh s))):=by
        rw[show(0:Int)=((0:Nat):Int)from rfl,CV s 0 _ (Nat.zero_le _) hsl,Option.bind_some,AZ ⟨hl,Jb (by simp;omega)⟩,Bi hsl,Option.bind_some,List.drop_zero,Nat.sub_zero,ht]
        have hlen:out.length+(List.take (Jh s) s).length=(out++List.take (Jh s) s).length:=by simp
        rw[hlen]
        exact Ij hN k _ (out++s.take (Jh s)) _ (by simp;omega) (by simp;omega) (by simp) (by rw[List.take_of_length_le (by simp)];simp)
      by_cases hc:(s.drop 1).contains 47=true
      · have e:wr .i64 (((1:Nat):Int)+(((s.drop 1).takeWhile (· !=47)).length:Int))=((Jh s:Nat):Int):=by
          unfold Jh at hsl⊢;rw[BH (by omega)];omega
        rw[if_pos hc,e,if_neg (by simp;omega)]
        exact fin
      · rw [if_neg hc,if_pos (by rfl)]
        have hc':(s.drop 1).contains 47=false:=by simpa using hc
        have e:Jh s=s.length:=by
          have hall:(s.drop 1).takeWhile (· !=(47:UInt8))=s.drop 1:=by
            exact Nv _ hc'
          unfold Jh;rw[hall,List.length_drop];omega
        rw[e]at fin
        rw[e]
        exact fin
    by_cases h7:(s==([46]:List UInt8))=true
    · rw[if_pos h7]at hdd⊢;rw[if_pos rfl,hdd]
    · rw[if_neg h7]at hdd⊢;rw[hdd]
theorem AQK (s:List UInt8) (hN:20000≤N) (hb:s.length≤16380):Fe N s=some (IJ N s []):=by
  unfold Fe
  rw[AZ (by unfold Rx;omega)]
  have:=Ij hN N s [] (List.replicate (0:Int).toNat 0) (by omega) (by simpa using hb) (by simp) (by simp)
  simpa using this
theorem KW: ∀(k:Nat) (s out:List UInt8),(IJ k s out).length≤s.length+out.length
  |0,s,out=>by simp[IJ]
  | k+1,s,out=>by
    have hso:=OP out
    rw[IJ]
    split
    · omega
    split
    · have:=KW k (s.drop 3) out;simp only[List.length_drop]at this;omega
    split
    · have:=KW k (s.drop 2) out;simp only[List.length_drop]at this;omega
    split
    · have:=KW k (s.drop 2) out;simp only[List.length_drop]at this;omega
    split
    · rename_i h;have:=KW k [47] out;rw[h];simp only[List.length_cons,List.length_nil]at *;omega
    split
    · have:=KW k (s.drop 3) (Gf out);simp only[List.length_drop]at this;omega
    split
    · rename_i h;have:=KW k [47] (Gf out);rw[h];simp only[List.length_cons,List.length_nil]at *;omega
    split
    · have:=KW k [] out;simp only[List.length_nil]at this;omega
    · have:=KW k (s.drop (Jh s)) (out++s.take (Jh s));simp only[List.length_drop,List.length_append,List.length_take]at this;omega
end
end Go.VM
namespace Go.VM
section
variable{N:Nat}
theorem ZZ (c:UInt8) (l:List UInt8):strings_Index N l [c]=some (Go.Lib.indexByte l c):=by
  unfold strings_Index Bt
  dsimp only[AJ]
  rw[if_neg (by exact Bool.false_ne_true)]
  by_cases h:([c]==l)=true
  · have:l=[c]:=by have:=beq_iff_eq.1 h;exact this.symm
    subst this
    simp[Go.Lib.indexByte]
  · rw[if_neg h,if_pos (by rfl),show idx [c] 0=some c from rfl,Option.bind_some]
    unfold A8
    rw[Iy];rfl
theorem MV{c:UInt8}{l:List UInt8}:l.count c=0↔l.contains c=false:=by
  rw[List.count_eq_zero]
  simp
theorem Q5{c:UInt8}: ∀ {l:List UInt8},l.contains c=true→l.count c=((l.dropWhile (· !=c)).drop 1).count c+1
  |[],h=>by simp at h
  | x::t,h=>by
    by_cases hx:x=c
    · subst hx;simp
    · have hx':(x !=c)=true:=by simpa using hx
      rw[List.contains_cons,show(c==x)=false by simpa using fun h:c=x=>hx h.symm,Bool.false_or]at h
      rw[List.dropWhile_cons,if_pos hx',List.count_cons,show(x==c)=false by simpa using hx,Q5 h]
      simp
theorem EN{c:UInt8}{l:List UInt8} (h:l.contains c=true):Aa c l=(l.takeWhile (· !=c),(l.dropWhile (· !=c)).drop 1,true):=by unfold Aa;rw[if_pos h]
theorem Mk{c:UInt8}{l:List UInt8} (h:l.contains c=false):Aa c l=(l,[],false):=by unfold Aa;rw[if_neg (by rw[h];decide)]
theorem ABb{c:UInt8}{l:List UInt8} (h:l.contains c=true) (hb:l.length≤1000000):
    sub l 0 (wr .i64 (Go.Lib.indexByte l c+0))=some (Aa c l).1∧sub l (wr .i64 (Go.Lib.indexByte l c+(([c]:List UInt8).length:Int))) (l.length:Int)=some (Aa c l).2.1:=by
  have hlt:=JG h
  rw[JC]
  unfold Aa
  simp only[h,if_true]
  generalize hn:(l.takeWhile (· !=c)).length=n at *
  have w:wr .i64 ((n:Int)+(([c]:List UInt8).length:Int))=((n+1:Nat):Int):=by rw[BH (by simp<;>omega)];simp
  have w0:wr .i64 ((n:Int)+0)=(n:Int):=by rw[BH (by omega)];omega
  rw[w,w0,show(0:Int)=((0:Nat):Int)from rfl,CV l 0 n (by omega) (by omega),CV l (n+1) l.length (by omega) (by omega)]
  rw[List.drop_zero,Nat.sub_zero,←hn,Ja,List.take_of_length_le (by simp),←List.drop_drop,Mm]
  exact⟨rfl,rfl⟩
theorem ACb{c:UInt8}{a0:List UInt8}{j3:Int}{M:Nat} (k10:List UInt8×Int×List (List UInt8)→Option (List (List UInt8)))
    (hE:(if(wr .i64 ((a0.length:Int)+1))<j3 then(wr .i64 ((a0.length:Int)+1))else j3)=((M:Nat):Int)) (hM:M≤2000000):
    ∀(k:Nat) (s:List UInt8) (done:List (List UInt8)),s.count c=k→s.length≤1000000→done.length+k+1≤M→
      ∃pre last,pre++[last]=done++AU c s∧pre.length=done.length+k∧BZ N a0 [c] 0 j3 k10 k (done.length:Int) s (done++List.replicate (k+1) [])=k10 (last,((done.length+k:Nat):Int),pre++[[]])
  | 0,s,done,hc,hs,hd=>by
    have h0:=MV.1 hc
    refine⟨done,s,?_,rfl,?_⟩
    · rw[Ie,Mk h0];rfl
    · rw[BZ];rfl
  | k+1,s,done,hc,hs,hd=>by
    have h1:s.contains c=true:=by
      cases h:s.contains c
      · have:=MV.2 h;omega
      · rfl
    obtain⟨s1,s2⟩:=ABb h1 hs
    have hcb:=Q5 h1
    have hc1:(Aa c s).2.1=(s.dropWhile (· !=c)).drop 1:=by rw[EN h1]
    rw[←hc1]at hcb
    have hl:=FD c s
    obtain⟨pre,last,p1,p2,p3⟩:=ACb (c:=c) k10 hE hM k (Aa c s).2.1 (done++[(Aa c s).1]) (by omega) (by omega) (by simp;omega)
    refine⟨pre,last,?_,by rw[p2];simp;omega,?_⟩
    · rw[p1,Ie c s,if_pos (by rw[EN h1])];simp
    · rw[BZ,ZZ,Option.bind_some,if_neg (by rw[JC,if_pos h1];simp),s1,Option.bind_some,hE,AZ (by constructor<;>omega),AZ (by simp),s2,Option.bind_some]
      have e1:(done++List.replicate (k+1+1) ([]:List UInt8)).set (done.length:Int).toNat (Aa c s).1=(done++[(Aa c s).1])++List.replicate (k+1) []:=by
        rw[Int.toNat_natCast,List.set_append_right _ _ (Nat.le_refl _),Nat.sub_self,List.replicate_succ,List.set_cons_zero];simp
      rw[e1]
      have e2:(done.length:Int)+1=(((done++[(Aa c s).1]).length:Nat):Int):=by simp
      rw[e2,p3]
      congr 2
      simp;omega
theorem RS (l:List UInt8) (c:UInt8) (hb:l.length≤1000000):strings_Split N l [c]=some (AU c l):=by
  have hcl:l.count c≤l.length:=List.count_le_length
  have hcnt:strings_Count N l [c]=some ((l.count c:Nat):Int):=by
    unfold strings_Count
    rw[if_neg (by exact Bool.false_ne_true),if_pos (by rfl),show idx [c] 0=some c from rfl,Option.bind_some,Iy]
    rfl
  unfold strings_Split strings_genSplit
  dsimp only[AJ]
  rw[if_neg (by decide),if_neg (by simp),if_pos (by decide),hcnt,Option.bind_some]
  have w1:wr .i64 (((l.count c:Nat):Int)+1)=((l.count c+1:Nat):Int):=by rw[BH (by omega)];simp
  have w2:wr .i64 ((l.length:Int)+1)=((l.length+1:Nat):Int):=by rw[BH (by omega)];simp
  rw[w1]
  have hE:(if(wr .i64 ((l.length:Int)+1))<((l.count c+1:Nat):Int)then(wr .i64 ((l.length:Int)+1))else((l.count c+1:Nat):Int))=((l.count c+1:Nat):Int):=by rw[w2,if_neg (by omega)]
  obtain⟨pre,last,p1,p2,p3⟩:=ACb (N:=N) (c:=c) (a0:=l) (j3:=((l.count c+1:Nat):Int)) (M:=l.count c+1) (fun j9:(List UInt8)×Int×(List (List UInt8))=>
     grd (0≤j9.2.1∧j9.2.1<((if(wr .i64 ((l.length:Int)+1))<((l.count c+1:Nat):Int)then(wr .i64 ((l.length:Int)+1))else((l.count c+1:Nat):Int)).toNat:Int)) (
     grd (j9.2.1.toNat+1≤j9.2.2.length) (
     grd (0≤(wr .i64 (j9.2.1+1))∧(wr .i64 (j9.2.1+1))≤((if(wr .i64 ((l.length:Int)+1))<((l.count c+1:Nat):Int)then(wr .i64 ((l.length:Int)+1))else((l.count c+1:Nat):Int)).toNat:Int)) (
     grd ((wr .i64 (j9.2.1+1)).toNat≤j9.2.2.length) (
     some (List.take ((wr .i64 (j9.2.1+1)).toNat) (j9.2.2.set j9.2.1.toNat j9.1))))))) hE (by omega) (l.count c) l [] rfl hb (by simp)
  have w3:(wr .i64 (((l.count c+1:Nat):Int)-1)-0).toNat=l.count c:=by rw[BH (by omega)];omega
  rw[hE]at p3⊢
  rw[AZ (by unfold QH;omega),AZ (by rw[BH (by omega)];omega),w3]
  simp only[Int.toNat_natCast]at p3⊢
  simp only[List.nil_append,List.length_nil,Nat.zero_add]at p1 p2 p3
  rw[show((0:Nat):Int)=0 from rfl]at p3
  rw[p3]
  have w4:wr .i64 (((l.count c:Nat):Int)+1)=((pre.length+1:Nat):Int):=by rw[BH (by omega),p2];simp
  rw[w4]
  simp only[Int.toNat_natCast]
  rw[AZ (by omega),AZ (by simp;omega),AZ (by omega),AZ (by simp),Option.bind_some]
  rw[←p2,List.set_append_right _ _ (Nat.le_refl _),Nat.sub_self,List.set_cons_zero,List.take_of_length_le (by simp),p1]
end
end Go.VM
