import Derived.Test.YtjgdhjpafjpjgaaGreatDoorL2
set_option linter.unusedVariables false
set_option linter.unusedSimpArgs false
namespace Go.VM
section
variable{N:Nat}
theorem AIl{out:List UInt8}{bq:List Int} (h:List.take out.length bq=List.map AJ out):List.take (Gz out).length bq=List.map AJ (Gz out):=by
  have hle:=OW out
  have e:List.take (Gz out).length (List.take out.length bq)=List.take (Gz out).length bq:=by rw[List.take_take,Nat.min_eq_left hle]
  rw[←e,h]
  unfold Gz
  split
  · rename_i i hi
    have:=Qj hi
    rw[List.length_take,Nat.min_eq_left (by omega),List.map_take]
  · simp
theorem ARh (out:List UInt8) (v:Int) (hv:v=(match Kt out out.length with|some i=>(i:Int)|none=> -1)):(if v>0 then v else 0).toNat=(Gz out).length∧0≤(if v>0 then v else 0)∧(if v>0 then v else 0)≤(out.length:Int):=by
  subst hv
  unfold Gz
  cases h:Kt out out.length with
  |none=>simp
  | some i=>
    have:=Qj h
    simp only[List.length_take]
    split<;>omega
theorem JP (hN:20000≤N): ∀(k:Nat) (s out:List UInt8) (bq:List Int),s.length<k→s.length+out.length≤16380→out.length≤bq.length→List.take out.length bq=List.map AJ out→
    Af N k s out.length bq=some (Hf k s out)
  |0,s,out,bq,h,_,_,_=>by omega
  | k + 1, s,out,bq,hk,hb,hl,ht=>by
    rw[Af,Hf]
    have hchr:List.map Fx (List.take out.length bq)=out:=by rw[ht,I1]
    have hso:=OW out
    by_cases h0:s=[]
    · rw[if_pos (by simpa using h0),if_pos h0,AV ⟨hl,by unfold AO;omega⟩,hchr]
    have hpos:0<s.length:=List.length_pos_iff.2 h0
    rw[if_neg (by simpa using h0),if_neg h0,Od,Option.bind_some]
    by_cases h1:preB [46,46,47] s=true
    · have:=Ky h1;simp only[List.length_cons,List.length_nil]at this
      rw[if_pos h1,if_pos h1,show(3:Int)=((3:Nat):Int)from rfl,CK (by omega),Option.bind_some]
      exact JP hN k _ out bq (by simp;omega) (by simp;omega) hl ht
    rw[if_neg h1,if_neg h1,Od,Option.bind_some]
    by_cases h2:preB [46,47] s=true
    · have:=Ky h2;simp only[List.length_cons,List.length_nil]at this
      rw[if_pos h2,if_pos h2,show(2:Int)=((2:Nat):Int)from rfl,CK (by omega),Option.bind_some]
      exact JP hN k _ out bq (by simp;omega) (by simp;omega) hl ht
    rw[if_neg h2,if_neg h2,Od,Option.bind_some]
    by_cases h3:preB [47,46,47] s=true
    · have:=Ky h3;simp only[List.length_cons,List.length_nil]at this
      rw[if_pos h3,if_pos h3,show(2:Int)=((2:Nat):Int)from rfl,CK (by omega),Option.bind_some]
      exact JP hN k _ out bq (by simp;omega) (by simp;omega) hl ht
    rw[if_neg h3,if_neg h3]
    by_cases h4:s=[47,46]
    · rw[if_pos (by simpa using h4),if_pos h4]
      have:=congrArg List.length h4;simp only[List.length_cons,List.length_nil]at this
      exact JP hN k _ out bq (by simp;omega) (by simp;omega) hl ht
    rw[if_neg (by simpa using h4),if_neg h4]
    dsimp only[AB]
    rw[Od,Option.bind_some]
    have hcut: ∀s2:List UInt8,s2.length<k→s2.length+out.length≤16380→ ∀(v:Int),v=(match Kt out out.length with|some i=>(i:Int)|none=> -1)→
        grd (0≤(if v>0 then v else 0)∧(if v>0 then v else 0)≤(out.length:Int)) (Af N k s2 ((if v>0 then v else 0).toNat) bq)=some (Hf k s2 (Gz out)):=by
      intro s2 hs2 hs3 v hv
      obtain⟨e1,e2,e3⟩:=ARh out v hv
      rw[AV ⟨e2,e3⟩,e1]
      exact JP hN k s2 (Gz out) bq hs2 (by omega) (by omega) (AIl ht)
    have htail: ∀s2:List UInt8,s2.length<k→s2.length+out.length≤16380→
        (grd (out.length≤bq.length∧AO out.length) (Option.bind (strings_LastIndexByte N (List.map Fx (List.take out.length bq)) 47) fun y20=>
         grd (0≤(if y20>0 then y20 else 0)∧(if y20>0 then y20 else 0)≤(out.length:Int)) (Af N k s2 ((if y20>0 then y20 else 0).toNat) bq)))=some (Hf k s2 (Gz out)):=by
      intro s2 hs2 hs3
      rw[AV ⟨hl,by unfold AO;omega⟩,hchr,WR out (by omega) (by omega),Option.bind_some]
      exact hcut s2 hs2 hs3 _ rfl
    by_cases h5:preB [47,46,46,47] s=true
    · obtain⟨t,rfl⟩:=TF h5
      have e3:([47,46,46,47]++t:List UInt8).drop 3=47::t:=rfl
      have ep:preB [47] (47::t)=true:=by unfold preB;simp
      simp only[List.length_append,List.length_cons,List.length_nil]at hk hb
      rw[if_pos h5,if_pos h5,if_pos rfl,show(3:Int)=((3:Nat):Int)from rfl,CK (by simp),Option.bind_some,e3,AGD,if_pos ep,Option.bind_some,Be (by simp;omega)]
      exact htail (47::t) (by simp only[List.length_cons];omega) (by simp only[List.length_cons];omega)
    rw[if_neg h5,if_neg h5]
    by_cases h6:s=[47,46,46]
    · subst h6
      simp only[List.length_cons,List.length_nil]at hk hb
      rw[if_pos (by rfl),if_pos rfl,show(3:Int)=((3:Nat):Int)from rfl,CK (by simp),Option.bind_some,AGD,if_neg (by decide),Option.bind_some,Be (by simp)]
      exact htail [47] (by simp only[List.length_cons,List.length_nil];omega) (by simp only[List.length_cons,List.length_nil];omega)
    rw[if_neg (by simpa using h6),if_neg h6]
    have hdd:(if(s==([46]:List UInt8))=true then Af N k [] out.length bq else if(s==([46,46]:List UInt8))=true then Af N k [] out.length bq else Option.bind (sub s 1 (s.length:Int)) fun x26=>
           Option.bind (strings_IndexByte N x26 47) fun y27=>
           if((wr .i64 (1+y27))==0)=true then
            Option.bind (sub s 0 (s.length:Int)) fun x33=>
            grd (out.length≤bq.length∧Cg (out.length+x33.length) 1) (
            Option.bind (sub s (s.length:Int) (s.length:Int)) fun x35=>
            Af N k x35 (out.length+x33.length) (List.take out.length bq++List.map AJ x33))
           else Option.bind (sub s 0 (wr .i64 (1+y27))) fun x33=>
            grd (out.length≤bq.length∧Cg (out.length+x33.length) 1) (
            Option.bind (sub s (wr .i64 (1+y27)) (s.length:Int)) fun x35=>
            Af N k x35 (out.length+x33.length) (List.take out.length bq++List.map AJ x33)))=some (if s=[46]∨s=[46,46]then Hf k [] out else Hf k (s.drop (KC s)) (out++s.take (KC s))):=by
      have hrec:=JP hN k [] out bq (by simp;omega) (by simp;omega) hl ht
      by_cases h7:s=[46]
      · rw[if_pos (by simpa using h7),if_pos (.inl h7)];exact hrec
      by_cases h8:s=[46,46]
      · rw[if_neg (by simpa using h7),if_pos (by simpa using h8),if_pos (.inr h8)];exact hrec
      have hsl:=ASI h0
      have h1s:1≤KC s:=by unfold KC;omega
      rw[if_neg (by simpa using h7),if_neg (by simpa using h8),if_neg (by rintro(h|h);exact h7 h;exact h8 h),show(1:Int)=((1:Nat):Int)from rfl,CK (by omega),Option.bind_some,show(47:Int)=AJ 47 from rfl,JE,Option.bind_some,Ic]
      have fin:(Option.bind (sub s 0 ((KC s:Nat):Int)) fun x33=>
            grd (out.length≤bq.length∧Cg (out.length+x33.length) 1) (
            Option.bind (sub s ((KC s:Nat):Int) (s.length:Int)) fun x35=>
            Af N k x35 (out.length+x33.length) (List.take out.length bq++List.map AJ x33)))=some (Hf k (s.drop (KC s)) (out++s.take (KC s))):=by
        rw[show(0:Int)=((0:Nat):Int)from rfl,DI s 0 _ (Nat.zero_le _) hsl,Option.bind_some,AV ⟨hl,Km (by simp;omega)⟩,CK hsl,Option.bind_some,List.drop_zero,Nat.sub_zero,ht]
        have hlen:out.length+(List.take (KC s) s).length=(out++List.take (KC s) s).length:=by simp
        rw[hlen]
        exact JP hN k _ (out++s.take (KC s)) _ (by simp;omega) (by simp;omega) (by simp) (by rw[List.take_of_length_le (by simp)];simp)
      by_cases hc:(s.drop 1).contains 47=true
      · have e:wr .i64 (((1:Nat):Int)+(((s.drop 1).takeWhile (· !=47)).length:Int))=((KC s:Nat):Int):=by
          unfold KC at hsl⊢;rw[AR (by omega)];omega
        rw[if_pos hc,e,if_neg (by simp;omega)]
        exact fin
      · rw [if_neg hc,if_pos (by rfl)]
        have hc':(s.drop 1).contains 47=false:=by simpa using hc
        have e:KC s=s.length:=by
          have hall:(s.drop 1).takeWhile (· !=(47:UInt8))=s.drop 1:=by
            exact LK _ hc'
          unfold KC;rw[hall,List.length_drop];omega
        rw[e]at fin
        rw[e]
        exact fin
    by_cases h7:(s==([46]:List UInt8))=true
    · rw[if_pos h7]at hdd⊢;rw[if_pos rfl,hdd]
    · rw[if_neg h7]at hdd⊢;rw[hdd]
theorem TK (s:List UInt8) (hN:20000≤N) (hb:s.length≤16380):Dq N s=some (Hf N s []):=by
  unfold Dq
  rw[AV (by unfold SH;omega)]
  have:=JP hN N s [] (List.replicate (0:Int).toNat 0) (by omega) (by simpa using hb) (by simp) (by simp)
  simpa using this
theorem Jm: ∀(k:Nat) (s out:List UInt8),(Hf k s out).length≤s.length+out.length
  |0,s,out=>by simp[Hf]
  | k+1,s,out=>by
    have hso:=OW out
    rw[Hf]
    split
    · omega
    split
    · have:=Jm k (s.drop 3) out;simp only[List.length_drop]at this;omega
    split
    · have:=Jm k (s.drop 2) out;simp only[List.length_drop]at this;omega
    split
    · have:=Jm k (s.drop 2) out;simp only[List.length_drop]at this;omega
    split
    · rename_i h;have:=Jm k [47] out;rw[h];simp only[List.length_cons,List.length_nil]at *;omega
    split
    · have:=Jm k (s.drop 3) (Gz out);simp only[List.length_drop]at this;omega
    split
    · rename_i h;have:=Jm k [47] (Gz out);rw[h];simp only[List.length_cons,List.length_nil]at *;omega
    split
    · have:=Jm k [] out;simp only[List.length_nil]at this;omega
    · have:=Jm k (s.drop (KC s)) (out++s.take (KC s));simp only[List.length_drop,List.length_append,List.length_take]at this;omega
end
end Go.VM
namespace Go.VM
section
variable{N:Nat}
def MU (a:List UInt8):Prop:=a.map FK=[104,116,116,112,115]
theorem RL{a:List UInt8} (h:MU a):a.length=5∧ ∀x,x∈a→IU x=true∧x.toNat<128∧x≠35∧x≠63∧x≠47∧x≠58∧x≠64:=by
  refine⟨by have:=congrArg List.length h;simpa using this,fun x hx=>?_⟩
  have hm:FK x∈([104,116,116,112,115]:List UInt8):=by rw[←h];exact List.mem_map_of_mem hx
  have key:=DV (f:=fun n=>(!([104,116,116,112,115]:List UInt8).contains (FK (UInt8.ofNat n)))||(ACH n&&decide (n<128)&&decide (n≠35)&&decide (n≠63)&&decide (n≠47)&&decide (n≠58)&&decide (n≠64))) (g:=fun _=>true) (by kernel_rfl) x
  simp only[UInt8.ofNat_toNat]at key
  rw[show([104,116,116,112,115]:List UInt8).contains (FK x)=true by simpa using hm]at key
  simp only[Bool.not_true,Bool.false_or,Bool.and_eq_true,decide_eq_true_eq]at key
  obtain⟨⟨⟨⟨⟨⟨k1,k2⟩,k3⟩,k4⟩,k5⟩,k6⟩,k7⟩:=key
  refine⟨k1,k2,?_,?_,?_,?_,?_⟩<;>(rintro rfl;first|exact k3 rfl|exact k4 rfl|exact k5 rfl|exact k6 rfl|exact k7 rfl)
theorem QN{c:UInt8}: ∀(pre t:List UInt8),(∀x,x∈pre→x≠c)→AQ c (pre++t)=(pre++(AQ c t).1,(AQ c t).2)
  |[],t,_=>rfl
  | x::pre,t,h=>by
    have ih:=QN pre t fun y hy=>h y (by simp[hy])
    have hx:x≠c:=h x (by simp)
    have e1:(c==x)=false:=by simpa using fun e:c=x=>hx e.symm
    have e2:(x !=c)=true:=by simpa using hx
    rw[List.cons_append]
    cases hc:(pre++t).contains c
    · rw[MH (by rw[List.contains_cons,e1,hc];rfl)]
      rw[MH hc]at ih
      simp only[Prod.mk.injEq]at ih
      obtain⟨i1,i2⟩:=ih
      rw[List.cons_append,←i1,←i2]
    · rw[Fg (by rw[List.contains_cons,e1,hc];rfl),List.takeWhile_cons,e2,List.dropWhile_cons,e2]
      rw[Fg hc]at ih
      simp only[Prod.mk.injEq]at ih
      obtain⟨i1,i2⟩:=ih
      simp only[if_true]
      rw[List.cons_append,←i1,←i2]
theorem AVR{α:Type} (c:UInt8) (l:List UInt8) (hb:l.length≤1000000) (k:List UInt8×List UInt8×Bool→Option α):
    (Option.bind (BC N l [c]) fun y=>if(decide (y<(l.length:Int)))=true then Option.bind (sub l (wr .i64 (y+1)) (l.length:Int)) fun x7=>Option.bind (sub l 0 y) fun x8=>k (x8,x7,true)else k (l,[],false))=k (AQ c l):=by
  have hw:(fun x:UInt8=>!([c]:List UInt8).contains x)=(fun x=>x !=c):=by funext x;simp[bne];rfl
  rw[JB l [c] (by simp) (by omega),Option.bind_some,hw]
  cases hc:l.contains c
  · rw[LK l hc,if_neg (by simp),MH hc]
  · have hlt:=JV hc
    obtain⟨s1,s2⟩:=Yw hc hb
    rw[Ic,if_pos hc]at s1 s2
    have w0:wr .i64 (((l.takeWhile (· !=c)).length:Int)+0)=((l.takeWhile (· !=c)).length:Int):=by rw[AR (by omega)];omega
    rw[w0]at s1
    rw[if_pos (by simp;omega),show((1:Int))=(([c]:List UInt8).length:Int)from rfl,s2,Option.bind_some,s1,Option.bind_some,Fg hc]
def J8 (r:List UInt8):List UInt8×List UInt8×Bool:=if preB [47,47] r=true then((r.drop 2).dropWhile (· !=47),(r.drop 2).takeWhile (· !=47),true)else(r,[],false)
def ANJ (a b:List UInt8):ApiURI:=
  ⟨a,(J8 (AQ 63 (AQ 35 b).1).1).2.1,(J8 (AQ 63 (AQ 35 b).1).1).1,(AQ 63 (AQ 35 b).1).2.1,(AQ 35 b).2.1,true,(J8 (AQ 63 (AQ 35 b).1).1).2.2,(AQ 63 (AQ 35 b).1).2.2,(AQ 35 b).2.2⟩
theorem QA (k2:Unit→Option Bool): ∀(l:List UInt8) (i:Int),(∀x,x∈l→IU x=true)→CV N k2 l i=k2 ()
  |[],i,_=>by rw[CV]
  | c::l,i,h=>by
    rw[CV]
    dsimp only[AB]
    rw[OX,Option.bind_some,h c (by simp),if_pos rfl,if_neg (by decide)]
    exact QA k2 l (i+1) fun x hx=>h x (by simp[hx])
theorem AIP{a:List UInt8} (h:MU a):Hg N a=some true:=by
  obtain⟨h5,hl⟩:=RL h
  unfold Hg
  rw[AB,Be (by omega),QA _ a 0 fun x hx=>(hl x hx).1]
  cases a with
  |nil=>simp at h5
  |cons _ _=>rfl
theorem Yp{p:UInt8→Bool}: ∀(a:List UInt8){x:UInt8}{t:List UInt8},(∀y,y∈a→p y=true)→p x=false→(a++x::t).takeWhile p=a
  |[],x,t,_,hx=>by rw[List.nil_append,List.takeWhile_cons,hx];rfl
  |y::a,x,t,h,hx=>by rw[List.cons_append,List.takeWhile_cons,h y (by simp),if_pos rfl,Yp a (fun z hz=>h z (by simp[hz])) hx]
theorem AXA{a:List UInt8} (h:MU a): ∀y,y∈a→(!([58,47]:List UInt8).contains y)=true:=fun y hy=>by
  obtain⟨_,_,_,_,k5,k6,_⟩:=(RL h).2 y hy
  simp[k5,k6]
theorem ARV{α:Type}{d:JD Int} (r:List UInt8) (hb:r.length≤1000000) (k:List UInt8×List UInt8×Bool→Option α):
    (Option.bind (strings_CutPrefix N r ([47,47]:List UInt8)) fun y24=>
     if y24.2=true then
      Option.bind (strings_IndexByte N y24.1 47) fun y26=>
      AA (fun j28:Int=>
       Option.bind (sub y24.1 0 j28) fun x32=>
       Option.bind (sub y24.1 j28 (y24.1.length:Int)) fun x33=>
       k (x33,x32,true)) (fun k29=>
      if(decide (y26<0))=true then
       k29 (y24.1.length:Int)
      else
       k29 y26) d
     else
      k (r,[],false))=k (J8 r):=by
  rw[AJ6,Option.bind_some]
  unfold J8
  by_cases h:preB [47,47] r=true
  · rw [if_pos h,if_pos h]
    simp only[if_true,List.length_cons,List.length_nil]
    rw[show(47:Int)=AJ 47 from rfl,JE,Option.bind_some,Ic,AB]
    generalize hq:r.drop (0+1+1)=q
    have hql:q.length≤1000000:=by rw[←hq,List.length_drop];omega
    cases hc:q.contains 47
    · have hd:q.dropWhile (· !=(47:UInt8))=[]:=by
        have e:=List.takeWhile_append_dropWhile (p:=(· !=(47:UInt8))) (l:=q)
        rw[LK q hc]at e
        simpa using e
      simp only[Bool.false_eq_true,if_false]
      rw[if_pos (by decide),show(0:Int)=((0:Nat):Int)from rfl,DI q 0 _ (Nat.zero_le _) (Nat.le_refl _),Option.bind_some,CK (Nat.le_refl _),Option.bind_some,LK q hc,hd]
      simp
    · have hlt:=JV hc
      simp only[if_true]
      rw[if_neg (by simp),show(0:Int)=((0:Nat):Int)from rfl,DI q 0 _ (Nat.zero_le _) (by omega),Option.bind_some,CK (by omega),Option.bind_some,List.drop_zero,Nat.sub_zero,F6,Gg]
  · rw[if_neg h,if_neg h];rfl
theorem AXd{α:Type} (r:List UInt8) (hb:r.length≤1000000) (k:List UInt8×List UInt8×Bool→Option α):
    (Option.bind (Dx N r ([47,47]:List UInt8)) fun y36=>
     if y36=true then
      Option.bind (sub r 2 (r.length:Int)) fun x38=>
      Option.bind (BC N x38 ([47]:List UInt8)) fun y39=>
      Option.bind (sub r 2 (wr .i64 (2+y39))) fun x41=>
      Option.bind (sub r (wr .i64 (2+y39)) (r.length:Int)) fun x42=>
      k (x42,x41,true)
     else
      k (r,[],false))=k (J8 r):=by
  have hw:(fun x:UInt8=>!([47]:List UInt8).contains x)=(fun x=>x !=47):=by funext x;simp[bne];rfl
  rw[NC,Option.bind_some]
  unfold J8
  by_cases h:preB [47,47] r=true
  · have hl:=Ky h
    simp only[List.length_cons,List.length_nil]at hl
    have hle:=LB (· !=(47:UInt8)) (r.drop 2)
    rw[List.length_drop]at hle
    rw[if_pos h,if_pos h,show(2:Int)=((2:Nat):Int)from rfl,CK (by omega),Option.bind_some,JB _ [47] (by simp) (by rw[List.length_drop];omega),Option.bind_some,hw]
    have e:wr .i64 (((2:Nat):Int)+(((r.drop 2).takeWhile (fun x=>x !=47)).length:Int))=((2+((r.drop 2).takeWhile (fun x=>x !=47)).length:Nat):Int):=by rw[AR (by omega)];omega
    rw[e,DI r 2 _ (by omega) (by omega),Option.bind_some,CK (by omega),Option.bind_some,show 2+((r.drop 2).takeWhile (fun x=>x !=47)).length-2=((r.drop 2).takeWhile (fun x=>x !=47)).length by omega,F6,←List.drop_drop,Gg]
  · rw[if_neg h,if_neg h]
theorem AXr{c:UInt8}{a b:List UInt8} (h: ∀x,x∈a→x≠c) (hc:(58:UInt8)≠c):AQ c (a++58::b)=(a++58::(AQ c b).1,(AQ c b).2):=by
  rw[show a++58::b=(a++[58])++b by simp,QN (a++[58]) b (by
    intro x hx
    simp only[List.mem_append,List.mem_cons,List.not_mem_nil,or_false]at hx
    rcases hx with hx|rfl
    · exact h x hx
    · exact hc)]
  simp
theorem AXB{a b:List UInt8} (h:MU a) (hb:(a++58::b).length≤16384) (hN:20000≤N):IK N (a++58::b)=some (ANJ a b,0):=by
  obtain⟨h5,hl⟩:=RL h
  simp only[List.length_append,List.length_cons]at hb
  have hc1:=FP 35 b
  have hc2:=FP 63 (AQ 35 b).1
  unfold IK ANJ
  rw[if_neg (by simp only[List.length_append,List.length_cons,decide_eq_true_eq];omega),LZ 35 _ (by simp only[List.length_append,List.length_cons];omega),Option.bind_some,AXr (c:=35) (fun x hx=>(hl x hx).2.2.1) (by decide),LZ 63 _ (by simp only[List.length_append,List.length_cons];omega),Option.bind_some,AXr (c:=63) (fun x hx=>(hl x hx).2.2.2.1) (by decide)]
  dsimp only
  generalize (AQ 63 (AQ 35 b).1)=d at *
  obtain⟨r,q,hq⟩:=d
  dsimp only at *
  have hset:=AXA h
  have htw:((a++58::r).takeWhile fun c=>!([58,47]:List UInt8).contains c)=a:=Yp a hset (by decide)
  have hany:(a++58::r).any ([58,47]:List UInt8).contains=true:=by rw[List.any_append];simp
  refine(Bo (a:=(r,a,true)) fun k=>?_).trans ?_
  · rw[Ww (by decide) (by decide) (by decide) (by
      intro _ c hc
      rw[htw]at hc
      exact(hl c hc).2.1) (by simp only[List.length_append,List.length_cons];omega) (by omega),Option.bind_some]
    unfold AK6
    rw[if_pos hany,htw]
    have hget:(a++58::r)[a.length]?=some 58:=by rw[List.getElem?_append_right (Nat.le_refl _),Nat.sub_self];rfl
    dsimp only[AB]
    rw[if_pos (by simp),IC,hget,Option.bind_some,if_pos (by decide),show(0:Int)=((0:Nat):Int)from rfl,DI _ 0 _ (Nat.zero_le _) (by simp),Option.bind_some,List.drop_zero,Nat.sub_zero,List.take_left,AIP h,Option.bind_some,if_pos rfl,show wr .i64 ((a.length:Int)+1)=((a.length+1:Nat):Int) by rw[AR (by omega)];omega,CK (by simp),Option.bind_some]
    rw[show(a++58::r).drop (a.length+1)=r by rw[←List.drop_drop,List.drop_left];rfl]
  · dsimp only
    refine(Bo (a:=J8 r) fun k=>ARV r (by omega) k).trans ?_
    rfl
end
end Go.VM
namespace Go.VM
section
variable{N:Nat}
def AQ1 (c:UInt8):Bool:=([43,45,46]:List UInt8).contains c
def AIK (c:UInt8):Bool:=IU c||(F9 c||AQ1 c)
def VZ:List UInt8→Bool
  |[]=>false
  |c::t=>IU c&&t.all AIK
def Ia (c:UInt8):Bool:=!([58,47]:List UInt8).contains c
theorem UG{p:UInt8→Bool} (l:List UInt8):l[(l.takeWhile p).length]?=(l.dropWhile p).head?:=by
  rw[←Gg,List.head?_drop]
theorem WQ (set:List UInt8): ∀l:List UInt8,l.any set.contains=!((l.dropWhile fun c=>!set.contains c)==[])
  |[]=>rfl
  | c::l=>by
    rw[List.any_cons,List.dropWhile_cons]
    cases h:set.contains c
    · rw[Bool.false_or,WQ set l];rfl
    · simp
def VN (d:List UInt8):Option (List UInt8×List UInt8):=
  if(d.dropWhile Ia).head?=some 58 then some (d.takeWhile Ia,(d.dropWhile Ia).drop 1)else none
def AMt:ApiURI:=⟨[],[],[],[],[],false,false,false,false⟩
def usT (s:List UInt8) (a:List UInt8) (h:Bool) (d:List UInt8):ApiURI:=
  ⟨a,(J8 d).2.1,(J8 d).1,(AQ 63 (AQ 35 s).1).2.1,(AQ 35 s).2.1,h,(J8 d).2.2,(AQ 63 (AQ 35 s).1).2.2,(AQ 35 s).2.2⟩
def Iw (s:List UInt8):ApiURI×Int:=
  if s.length>16384 then(AMt,5)
  else match VN (AQ 63 (AQ 35 s).1).1 with
    |none=>(usT s [] false (AQ 63 (AQ 35 s).1).1,0)
    |some (a,r)=>if VZ a=true then(usT s a true r,0)else(AMt,6)
theorem AaM (c:UInt8):decide (Go.Lib.indexByte ([43,45,46]:List UInt8) c<0)=!AQ1 c:=by
  have h:=Hw c ([43,45,46]:List UInt8)
  unfold AQ1
  rw[←h]
  by_cases k:Go.Lib.indexByte ([43,45,46]:List UInt8) c<0
  · rw[decide_eq_true k,decide_eq_false (by omega)];rfl
  · rw[decide_eq_false k,decide_eq_true (by omega)];rfl
theorem We (k2:Unit→Option Bool): ∀(l:List UInt8) (i:Int),1≤i→CV N k2 l i=if l.all AIK=true then k2 ()else some false
  |[],i,_=>by rw[CV];rfl
  | c::l,i,h=>by
    have ih:=We k2 l (i+1) (by omega)
    have h0:(i==0)=false:=by simp;omega
    rw[CV]
    dsimp only[AB]
    rw[OX,Option.bind_some,List.all_cons]
    unfold AIK at *
    cases IU c
    · rw[if_neg (by decide),h0,if_neg (by decide),P6,Option.bind_some]
      cases F9 c
      · rw[if_neg (by decide),JE,Option.bind_some,AaM]
        cases AQ1 c
        · rfl
        · rw[if_neg (by decide),ih];rfl
      · rw[if_pos rfl,if_neg (by decide),ih];rfl
    · rw[if_pos rfl,if_neg (by decide),ih];rfl
theorem AWj{a:List UInt8} (hb:a.length≤1000000):Hg N a=some (VZ a):=by
  unfold Hg VZ
  rw[AB,Be (by omega)]
  cases a with
  |nil=>rw[CV];rfl
  | cons c t=>
    rw[CV]
    dsimp only[AB]
    rw[OX,Option.bind_some]
    cases IU c
    · rfl
    · rw[if_pos rfl,if_neg (by decide),We _ t _ (by omega)]
      cases t.all AIK<;>rfl
theorem WI (k2:Unit→Option Bool): ∀(l:List UInt8) (i:Int),1≤i→Cj N k2 l i=if l.all AIK=true then k2 ()else some false
  |[],i,_=>by rw[Cj];rfl
  | c::l,i,h=>by
    have ih:=WI k2 l (i+1) (by omega)
    have h0:(i==0)=false:=by simp;omega
    rw[Cj]
    dsimp only[AB]
    rw[OU,Option.bind_some,List.all_cons]
    unfold AIK at *
    cases IU c
    · rw[if_neg (by decide),h0,if_neg (by decide),OY,Option.bind_some]
      cases F9 c
      · rw[if_neg (by decide),Uw _ _ (by decide),Option.bind_some]
        unfold AQ1
        cases ([43,45,46]:List UInt8).contains c
        · rfl
        · rw[if_neg (by decide),ih];rfl
      · rw[if_pos rfl,if_neg (by decide),ih];rfl
    · rw[if_pos rfl,if_neg (by decide),ih];rfl
theorem AU0{a:List UInt8} (hb:a.length≤1000000):IE N a=some (VZ a):=by
  unfold IE VZ
  rw[AB,Be (by omega)]
  cases a with
  |nil=>rw[Cj];rfl
  | cons c t=>
    rw[Cj]
    dsimp only[AB]
    rw[OU,Option.bind_some]
    cases IU c
    · rfl
    · rw[if_pos rfl,if_neg (by decide),WI _ t _ (by omega)]
      cases t.all AIK<;>rfl
def R9{α:Type} (d:List UInt8) (e:Option α) (k:List UInt8×List UInt8×Bool→Option α):Option α:=
  match VN d with
  |none=>k (d,[],false)
  |some (a,r)=>if VZ a=true then k (r,a,true)else e
theorem N7 (d:List UInt8):d.takeWhile Ia++d.dropWhile Ia=d:=List.takeWhile_append_dropWhile
theorem AMC{α:Type}{d:List UInt8} (hb:d.length≤1000000) (hN:20≤N) (e:Option α) (k:List UInt8×List UInt8×Bool→Option α){D:JD Bool}:
    (Option.bind (strings_IndexAny N d ([58,47]:List UInt8)) fun y9=>
      AA (fun j11:Bool=>
       if j11=true then
        Option.bind (sub d 0 y9) fun x16=>
        Option.bind (Hg N x16) fun y17=>
        if y17=true then
         Option.bind (sub d (wr .i64 (y9+1)) (d.length:Int)) fun x19=>
         k (x19,x16,true)
        else e
       else
        k (d,[],false)) (fun k12=>
      if(decide (y9≥0))=true then
       Option.bind (idx d y9) fun x15=>
       k12 ((AJ x15)==58)
      else
       k12 false) D)=R9 d e k:=by
  rw[AOR hb hN,Option.bind_some]
  dsimp only[AB]
  unfold AK6 R9 VN
  rw[WQ]
  change _=_
  have hw:(d.takeWhile fun c=>!([58,47]:List UInt8).contains c)=d.takeWhile Ia:=rfl
  have hd:(d.dropWhile fun c=>!([58,47]:List UInt8).contains c)=d.dropWhile Ia:=rfl
  rw[hw,hd]
  have hs:=N7 d
  cases hx:d.dropWhile Ia with
  |nil=>rfl
  | cons c t=>
    have hlen:d.length=(d.takeWhile Ia).length+(t.length+1):=by
      have:=congrArg List.length hs
      rw[hx]at this
      simpa using this.symm
    have hget:d[(d.takeWhile Ia).length]?=some c:=by rw[UG,hx];rfl
    rw[show(!((c::t)==([]:List UInt8)))=true from rfl,if_pos rfl,if_pos (by simp),IC,hget,Option.bind_some,List.head?_cons]
    by_cases h:c=58
    · subst h
      rw[if_pos (by decide),if_pos rfl,show(0:Int)=((0:Nat):Int)from rfl,DI _ 0 _ (Nat.zero_le _) (by omega),Option.bind_some,List.drop_zero,Nat.sub_zero,F6,AWj (by omega),Option.bind_some]
      dsimp only
      cases VZ (d.takeWhile Ia)
      · rfl
      · rw[if_pos rfl,if_pos rfl,show wr .i64 (((d.takeWhile Ia).length:Int)+1)=(((d.takeWhile Ia).length+1:Nat):Int) by rw[AR (by omega)];omega,CK (by omega),Option.bind_some,←List.drop_drop,Gg,hx]
    · have hb':((AJ c)==58)=false:=by
        rw[show(58:Int)=AJ 58 from rfl,AUv];simpa using h
      rw[hb',if_neg (by decide),if_neg (by simpa using h)]
theorem AK5{α:Type}{d:List UInt8} (hb:d.length≤1000000) (e:Option α) (k:List UInt8×List UInt8×Bool→Option α){D:JD Bool}:
    (Option.bind (BC N d ([58,47]:List UInt8)) fun y9=>
      AA (fun j11:Bool=>
       if j11=true then
        Option.bind (sub d 0 y9) fun x16=>
        Option.bind (IE N x16) fun y17=>
        if y17=true then
         Option.bind (sub d (wr .i64 (y9+1)) (d.length:Int)) fun x19=>
         k (x19,x16,true)
        else e
       else
        k (d,[],false)) (fun k12=>
      if(decide (y9<(d.length:Int)))=true then
       Option.bind (idx d y9) fun x15=>
       k12 ((AJ x15)==58)
      else
       k12 false) D)=R9 d e k:=by
  rw[JB _ _ (by decide) (by omega),Option.bind_some]
  dsimp only[AB]
  unfold R9 VN
  have hw:(d.takeWhile fun c=>!([58,47]:List UInt8).contains c)=d.takeWhile Ia:=rfl
  rw[hw]
  have hs:=N7 d
  cases hx:d.dropWhile Ia with
  | nil=>
    have hlen:d.length=(d.takeWhile Ia).length:=by
      have:=congrArg List.length hs
      rw[hx]at this
      simpa using this.symm
    rw[if_neg (by simp;omega),if_neg (by decide)];rfl
  | cons c t=>
    have hlen:d.length=(d.takeWhile Ia).length+(t.length+1):=by
      have:=congrArg List.length hs
      rw[hx]at this
      simpa using this.symm
    have hget:d[(d.takeWhile Ia).length]?=some c:=by rw[UG,hx];rfl
    rw[if_pos (by simp;omega),IC,hget,Option.bind_some,List.head?_cons]
    by_cases h:c=58
    · subst h
      rw[if_pos (by decide),if_pos rfl,show(0:Int)=((0:Nat):Int)from rfl,DI _ 0 _ (Nat.zero_le _) (by omega),Option.bind_some,List.drop_zero,Nat.sub_zero,F6,AU0 (by omega),Option.bind_some]
      dsimp only
      cases VZ (d.takeWhile Ia)
      · rfl
      · rw[if_pos rfl,if_pos rfl,show wr .i64 (((d.takeWhile Ia).length:Int)+1)=(((d.takeWhile Ia).length+1:Nat):Int) by rw[AR (by omega)];omega,CK (by omega),Option.bind_some,←List.drop_drop,Gg,hx]
    · have hb':((AJ c)==58)=false:=by
        rw[show(58:Int)=AJ 58 from rfl,AUv];simpa using h
      rw[hb',if_neg (by decide),if_neg (by simpa using h)]
theorem AEm{α β:Type}{K:α→Option β}{body:(α→Option β)→Option β}{d:JD α}{X:(α→Option β)→Option β} (h: ∀k:α→Option β,body k=X k):AA K body d=X K:=h K
theorem NH (s:List UInt8) (hb:s.length≤1000000) (hN:20≤N):IK N s=some (Iw s):=by
  have hc1:=FP 35 s
  have hc2:=FP 63 (AQ 35 s).1
  unfold IK Iw
  by_cases h:s.length>16384
  · rw[if_pos (by simp;omega),if_pos h];rfl
  rw[if_neg (by simp;omega),if_neg h,LZ 35 _ (by omega),Option.bind_some,LZ 63 _ (by omega),Option.bind_some]
  generalize hd:(AQ 63 (AQ 35 s).1).1=d at *
  refine(AEm (X:=fun k=>R9 d (some (AMt,6)) k) fun k=>AMC (by omega) hN _ k).trans ?_
  unfold R9
  cases hcol:VN d with
  | none=>
    dsimp only
    refine(Bo (a:=J8 d) fun k=>ARV d (by omega) k).trans ?_
    rfl
  | some p=>
    obtain⟨a,r⟩:=p
    dsimp only
    cases VZ a
    · rfl
    · have hr:r.length≤d.length:=by
        unfold VN at hcol
        split at hcol
        · cases hcol
          have:=congrArg List.length (N7 d)
          simp only[List.length_append]at this
          rw[List.length_drop];omega
        · cases hcol
      rw[if_pos rfl,if_pos rfl]
      refine(Bo (a:=J8 r) fun k=>ARV r (by omega) k).trans ?_
      rfl
theorem Pk (s:List UInt8) (hb:s.length≤1000000):Hr N s=some (Iw s):=by
  have hc1:=FP 35 s
  have hc2:=FP 63 (AQ 35 s).1
  unfold Hr Iw
  by_cases h:s.length>16384
  · rw[if_pos (by simp;omega),if_pos h];rfl
  rw[if_neg (by simp;omega),if_neg h]
  refine(Bo (a:=AQ 35 s) fun k=>AVR 35 _ (by omega) k).trans ?_
  refine(Bo (a:=AQ 63 (AQ 35 s).1) fun k=>AVR 63 _ (by omega) k).trans ?_
  generalize hd:(AQ 63 (AQ 35 s).1).1=d at *
  refine(AEm (X:=fun k=>R9 d (some (AMt,6)) k) fun k=>AK5 (by omega) _ k).trans ?_
  unfold R9
  cases hcol:VN d with
  | none=>
    dsimp only
    refine(Bo (a:=J8 d) fun k=>AXd d (by omega) k).trans ?_
    rfl
  | some p=>
    obtain⟨a,r⟩:=p
    dsimp only
    cases VZ a
    · rfl
    · have hr:r.length≤d.length:=by
        unfold VN at hcol
        split at hcol
        · cases hcol
          have:=congrArg List.length (N7 d)
          simp only[List.length_append]at this
          rw[List.length_drop];omega
        · cases hcol
      rw[if_pos rfl,if_pos rfl]
      refine(Bo (a:=J8 r) fun k=>AXd r (by omega) k).trans ?_
      rfl
end
end Go.VM
namespace Go.VM
section
variable{N:Nat}
theorem Vv (k4:Unit→Option Bool): ∀ps:List (List UInt8),(∀p,p∈ps→p.length≤2^60)→EY N k4 ps=if(ps.all fun p=>(Et 255 p).2==0)=true then k4 ()else some false
  |[],_=>by rw[EY];rfl
  | p::ps,h=>by
    rw[EY,show(255:Int)=((255:Nat):Int)from rfl,U3 (by decide) p (h p (by simp)),Option.bind_some,Vv k4 ps fun q hq=>h q (by simp[hq]),List.all_cons]
    cases hx:((Et 255 p).2==0)<;>simp[bne,hx]
theorem AXK (l:List UInt8) (hb:l.length≤1000000):KX N l=some (AIe l):=by
  have hl:=I6 46 l
  have hp:=F4 46 l
  unfold KX
  rw[AMD l 46 hb,Option.bind_some]
  dsimp only[AB]
  rw[Be (by omega),Vv _ _ fun p h=>by have:=hp p h;omega]
  unfold AIe
  have e:(((Ar 46 l).length:Int) !=4)=!decide ((Ar 46 l).length=4):=by
    by_cases h:(Ar 46 l).length=4
    · rw[decide_eq_true h,h];rfl
    · rw[decide_eq_false h];simp;omega
  rw[e]
  cases decide ((Ar 46 l).length=4)<;>cases ((Ar 46 l).all fun p=>(Et 255 p).2==0)<;>simp
theorem AQM (l:List UInt8) (hN:300≤N):Mh N l=some (Mv l):=by
  unfold Mh Mv
  by_cases h:l=[]
  · subst h;rfl
  rw[if_neg (by simpa using h),if_neg h]
  by_cases h2:l.length>253
  · rw[if_pos (by simp only[decide_eq_true_eq];omega),if_pos h2]
  rw[if_neg (by simp only[decide_eq_true_eq];omega),if_neg h2]
  dsimp only[AB]
  rw[AXK l (by omega),Option.bind_some,ATg l (by omega) (by omega),Option.bind_some,lower_eq l (by omega),Option.bind_some]
  cases AIe l<;>cases PS l<;>rfl
theorem AYp (l:List UInt8) (hN:300≤N) (hb:l.length≤1000000):LV N l=some (hpS l):=by
  have hle:=FP 58 l
  unfold LV hpS
  rw[LZ 58 l (by omega),Option.bind_some,AQM _ hN,Option.bind_some]
  dsimp only[AB]
  rw[AS6 _ (by omega),Option.bind_some]
  by_cases h:((Mv (AQ 58 l).1).2 !=0)=true
  · rw[if_pos h,if_pos h]
  · rw [if_neg h,if_neg h]
    cases (AQ 58 l).2.2
    · rfl
    · simp only[if_true]
      by_cases hp:((Ng (AQ 58 l).2.1).2 !=0)=true
      · rw[if_pos hp,if_pos hp]
      · rw[if_neg hp,if_neg hp]
        split<;>rfl
def Ps (p:Int):Prop:=0≤p∧p≤65535
theorem AQP (l:List UInt8):Ps (Ng l).1:=by
  have:=OG 65535 l
  unfold Ng Ps;split<;>simp<;>omega
theorem AIv (l:List UInt8):Ps (hpS l).1.port:=by
  have:=AQP (AQ 58 l).2.1
  unfold hpS Ps at *
  split
  · simp
  split
  · split
    · simp
    · simp only;split<;>omega
  · simp
theorem ALe (l:List UInt8):(Mv l).1.length≤253:=by
  unfold Mv
  split
  · simp
  split
  · simp
  split
  · simp;omega
  · simp
theorem AAd (l:List UInt8):(hpS l).1.host.length≤253:=by
  have:=ALe (AQ 58 l).1
  unfold hpS
  split
  · simp
  split
  · split<;>simp<;>omega
  · simpa using this
def hpF (h:List UInt8) (p:Int):List UInt8:=if p=0 then h else h++[58]++fmtS p.toNat
theorem AKB (h:List UInt8) (p:Int):(hpF h p).length≤h.length+21:=by
  have:=T9 p.toNat
  unfold hpF;split<;>simp<;>omega
theorem AWM (h:List UInt8) (p:Int) (hp:Ps p) (hb:h.length≤1000000) (hN:20≤N):KY N ⟨h,p⟩=some (hpF h p):=by
  have hl:=T9 p.toNat
  obtain⟨h1,h2⟩:=hp
  unfold KY hpF
  by_cases h0:p=0
  · rw[if_pos (by simpa using h0),if_pos h0]
  · rw[if_neg (by simpa using h0),if_neg h0,if_neg (by simp;omega)]
    have e:wr .u64 p=((p.toNat:Nat):Int):=by rw[JZ (by omega)];omega
    simp only[e]
    rw[AHg p.toNat (by omega) hN,Option.bind_some,Be (by simp;omega),Be (by simp;omega)]
theorem AUs (h:List UInt8) (p:Int) (hp:Ps p) (hb:h.length≤1000000) (hN:20≤N):Jk N ⟨h,p⟩=some (hpF h p):=by
  have hl:=T9 p.toNat
  obtain⟨h1,h2⟩:=hp
  unfold Jk KN hpF
  by_cases h0:p=0
  · rw[if_pos (by simpa using h0),if_pos h0]
  · rw[if_neg (by simpa using h0),if_neg h0]
    have e:wr .u64 p=((p.toNat:Nat):Int):=by rw[JZ (by omega)];omega
    simp only[e]
    rw[if_neg (by simp;omega),AJX p.toNat (by omega) hN,Option.bind_some,Option.bind_some,Be (by simp;omega),Be (by simp;omega)]
end
end Go.VM
namespace Go.VM
section
variable{N:Nat}
theorem ADu (c:UInt8) (l:List UInt8):strings_Contains N l [c]=some (l.contains c):=by
  unfold strings_Contains;rw[Yc,Option.bind_some,Hw]
theorem AXz{c:UInt8}{l:List UInt8} (hb:l.length≤1000000):decide ((((l.takeWhile fun x=>!([c]:List UInt8).contains x).length:Nat):Int)<(l.length:Int))=l.contains c:=by
  have hw:(fun x:UInt8=>!([c]:List UInt8).contains x)=(fun x=>x !=c):=by funext x;simp[bne];rfl
  rw[hw]
  cases h:l.contains c
  · rw[LK l h];simp
  · have:=JV h;simp;omega
theorem YH (also:List UInt8): ∀(k:Nat) (t out:List UInt8),(OJ also k t out).1.length≤out.length+t.length
  |0,t,out=>by simp[OJ]
  |k+1,[],out=>by simp[OJ]
  | k+1,c::t,out=>by
    rw[OJ]
    split
    · cases h:JW t with
      |none=>simp
      | some x=>
        have h2:=Ol h
        have:=YH also k (t.drop 2) (out++(if Gy x=true then [x]else MO x))
        simp only[List.length_append,List.length_drop,List.length_cons]at *
        have:(if Gy x=true then [x]else MO x).length≤3:=by split<;>simp[MO]
        omega
    · split
      · have:=YH also k t (out++[c])
        simp only[List.length_append,List.length_cons,List.length_nil]at *;omega
      · simp
theorem GK (s also:List UInt8):(CE N s also).1.length≤s.length:=by
  unfold CE
  split
  · simp
  · have:=YH also N s [];simpa using this
def QC (u:ApiURL):List UInt8:=if u.hasQuery=true then u.path++[63]++u.query else u.path
def JX (u:ApiURL):List UInt8:=
  if u.hasFrag=true then([104,116,116,112,115,58,47,47]++hpF u.host u.port)++QC u++([35]++u.fragment)else([104,116,116,112,115,58,47,47]++hpF u.host u.port)++QC u
theorem ARl (u:ApiURL) (h:u.path.length≤1000000∧u.query.length≤1000000):Ie N u=some (QC u):=by
  unfold Ie QC
  cases u.hasQuery
  · rfl
  · rw[if_pos rfl,if_pos rfl,Be (by simp;omega),Be (by simp;omega)]
theorem ASJ (u:ApiURL) (h:u.path.length≤1000000∧u.query.length≤1000000):Jc N u=some (QC u):=by
  unfold Jc QC
  cases u.hasQuery
  · rfl
  · rw[if_pos rfl,if_pos rfl,Be (by simp;omega),Be (by simp;omega)]
theorem ACj (u:ApiURL):(QC u).length≤u.path.length+u.query.length+1:=by
  unfold QC;split
  · simp only[List.length_append,List.length_cons,List.length_nil];omega
  · omega
def Ox (u:ApiURL):Prop:=Ps u.port∧u.host.length≤1000000∧u.path.length≤1000000∧u.query.length≤1000000∧u.fragment.length≤1000000
theorem Qm (u:ApiURL) (h:Ox u) (hN:20≤N):EM N u=some (JX u):=by
  obtain⟨h1,h2,h3,h4,h5⟩:=h
  have hh:=AKB u.host u.port
  have ht:=ACj u
  unfold EM KO JX
  rw[Option.bind_some,AWM _ _ h1 h2 hN,Option.bind_some,Be (by simp;omega),ARl u ⟨h3,h4⟩,Option.bind_some,Be (by simp;omega)]
  dsimp only[AB]
  cases u.hasFrag
  · rfl
  · rw[if_pos rfl,if_pos rfl,Be (by simp;omega),Be (by simp;omega)]
theorem Q9 (u:ApiURL) (h:Ox u) (hN:20≤N):Ev N u=some (JX u):=by
  obtain⟨h1,h2,h3,h4,h5⟩:=h
  have hh:=AKB u.host u.port
  have ht:=ACj u
  unfold Ev Kz JX
  rw[Option.bind_some,AUs _ _ h1 h2 hN,Option.bind_some,Be (by simp;omega),ASJ u ⟨h3,h4⟩,Option.bind_some,Be (by simp;omega)]
  dsimp only[AB]
  cases u.hasFrag
  · rfl
  · rw[if_pos rfl,if_pos rfl,Be (by simp;omega),Be (by simp;omega)]
theorem ARG (r:List UInt8):(J8 r).1.length≤r.length∧(J8 r).2.1.length≤r.length:=by
  unfold J8
  split
  · have h1:=(List.dropWhile_sublist (fun x:UInt8=>x !=47) (l:=r.drop 2)).length_le
    have h2:=LB (· !=(47:UInt8)) (r.drop 2)
    rw[List.length_drop]at h1 h2
    exact⟨by dsimp only;omega,by dsimp only;omega⟩
  · simp
def inP:List UInt8:=[33,36,38,39,40,41,42,43,44,59,61,58,64,47]
def inQ:List UInt8:=[33,36,38,39,40,41,42,43,44,59,61,58,64,47,63]
def Lj:ApiURL:=⟨[],0,[],[],[],false,false⟩
def MB (N:Nat) (p:List UInt8):List UInt8:=if Hf N p []=[]then [47]else Hf N p []
def AIg (N:Nat) (U:ApiURI):ApiURL×Int:=
  if U.hasAuthority=false then(Lj,71)
  else if U.authority.contains 64=true then(Lj,70)
  else if((hpS U.authority).2 !=0)=true then(Lj,(hpS U.authority).2)
  else if((CE N U.path inP).2 !=0)=true then(Lj,(CE N U.path inP).2)
  else if((CE N U.query inQ).2 !=0)=true then(Lj,(CE N U.query inQ).2)
  else if((CE N U.fragment inQ).2 !=0)=true then(Lj,(CE N U.fragment inQ).2)
  else if(JX ⟨(hpS U.authority).1.host,(hpS U.authority).1.port,MB N (CE N U.path inP).1,(CE N U.query inQ).1,(CE N U.fragment inQ).1,U.hasQuery,U.hasFrag⟩).length>4096 then(Lj,5)
  else(⟨(hpS U.authority).1.host,(hpS U.authority).1.port,MB N (CE N U.path inP).1,(CE N U.query inQ).1,(CE N U.fragment inQ).1,U.hasQuery,U.hasFrag⟩,0)
def AM7 (N:Nat) (a b:List UInt8):ApiURL×Int:=if(a++58::b).length>4096 then(Lj,5)else AIg N (ANJ a b)
theorem Uy (p:List UInt8):(MB N p).length≤p.length+1:=by
  have:=Jm N p []
  simp only[List.length_nil]at this
  unfold MB;split
  · simp
  · omega
theorem AO3{a:List UInt8} (h:MU a):(a.map FK==List.map FK [104,116,116,112,115])=true:=by
  rw[h];decide
def Mm (N:Nat) (s:List UInt8):ApiURL×Int:=
  if s.length>4096 then(Lj,5)
  else if((Iw s).2 !=0)=true then(Lj,(Iw s).2)
  else if(!((Iw s).1.hasScheme&&((Iw s).1.scheme.map FK==List.map FK [104,116,116,112,115])))=true then(Lj,60)
  else AIg N (Iw s).1
theorem AVr{d a r:List UInt8} (h:VN d=some (a,r)):a.length≤d.length∧r.length≤d.length:=by
  unfold VN at h
  split at h
  · cases h
    have:=congrArg List.length (N7 d)
    simp only[List.length_append]at this
    rw[List.length_drop];omega
  · cases h
theorem Lt (s:List UInt8):(Iw s).1.authority.length≤s.length∧(Iw s).1.path.length≤s.length∧(Iw s).1.query.length≤s.length∧(Iw s).1.fragment.length≤s.length∧(Iw s).1.scheme.length≤s.length:=by
  have hc1:=FP 35 s
  have hc2:=FP 63 (AQ 35 s).1
  unfold Iw
  split
  · simp[AMt]
  generalize hd:(AQ 63 (AQ 35 s).1).1=d at *
  have key: ∀a h r,r.length≤d.length→a.length≤s.length→(usT s a h r).authority.length≤s.length∧(usT s a h r).path.length≤s.length∧(usT s a h r).query.length≤s.length∧(usT s a h r).fragment.length≤s.length∧(usT s a h r).scheme.length≤s.length:=fun a h r hr ha=>by
    have:=ARG r
    unfold usT;dsimp only;omega
  split
  · exact key _ _ _ (Nat.le_refl _) (Nat.zero_le _)
  · rename_i a r hc
    have:=AVr hc
    split
    · exact key _ _ _ this.2 (by omega)
    · simp[AMt]
theorem Uz (s:List UInt8) (hb:s.length≤1000000) (hN:20000≤N):F3 N s=some (Mm N s):=by
  unfold F3 Mm
  by_cases hl:s.length>4096
  · rw[if_pos (by simp only[decide_eq_true_eq];omega),if_pos hl];rfl
  rw[if_neg (by simp only[decide_eq_true_eq];omega),if_neg hl,NH s hb (by omega),Option.bind_some]
  obtain⟨l1,l2,l3,l4,l5⟩:=Lt s
  generalize Iw s=X at *
  obtain⟨U,e⟩:=X
  dsimp only[AB]at *
  by_cases he:(e !=0)=true
  · rw[if_pos he,if_pos he];rfl
  rw[if_neg he,if_neg he]
  cases hS:U.hasScheme
  · rfl
  rw[if_pos rfl,Wm _ _ (by omega) (by decide),Option.bind_some]
  cases hE:(U.scheme.map FK==List.map FK [104,116,116,112,115])
  · rfl
  simp only[Bool.not_true,Bool.and_self,Bool.false_eq_true,if_false]
  unfold AIg
  cases hA:U.hasAuthority
  · rfl
  rw[if_pos rfl,if_neg (by decide)]
  rw[ADu,Option.bind_some]
  cases hat:U.authority.contains 64
  rotate_left
  · rfl
  rw[if_neg (by decide),if_neg (by decide),AYp _ (by omega) (by omega),Option.bind_some]
  have q1:=AIv U.authority
  have q2:=AAd U.authority
  generalize hpS U.authority=H at *
  by_cases e1:(H.2 !=0)=true
  · rw[if_pos e1,if_pos e1];rfl
  rw[if_neg e1,if_neg e1]
  have n1:=GK (N:=N) U.path inP
  have n2:=GK (N:=N) U.query inQ
  have n3:=GK (N:=N) U.fragment inQ
  rw[F8 U.path _ hN,Option.bind_some]
  change (if((CE N U.path inP).2 !=0)=true then _ else _)=_
  by_cases e2:((CE N U.path inP).2 !=0)=true
  · rw[if_pos e2,if_pos e2];rfl
  rw[if_neg e2,if_neg e2,F8 U.query _ hN,Option.bind_some]
  change (if((CE N U.query inQ).2 !=0)=true then _ else _)=_
  by_cases e3:((CE N U.query inQ).2 !=0)=true
  · rw[if_pos e3,if_pos e3];rfl
  rw[if_neg e3,if_neg e3,F8 U.fragment _ hN,Option.bind_some]
  change (if((CE N U.fragment inQ).2 !=0)=true then _ else _)=_
  by_cases e4:((CE N U.fragment inQ).2 !=0)=true
  · rw[if_pos e4,if_pos e4];rfl
  rw[if_neg e4,if_neg e4]
  change Option.bind (Dq N (CE N U.path inP).1) _=_
  rw[TK _ hN (by omega),Option.bind_some]
  have pl:=Uy (N:=N) (CE N U.path inP).1
  have hp:MB N (CE N U.path inP).1=if(Hf N (CE N U.path inP).1 []==[])=true then [47]else Hf N (CE N U.path inP).1 []:=by
    unfold MB;split<;>simp_all
  have fin: ∀P:List UInt8,P=MB N (CE N U.path inP).1→(Option.bind (EM N (ApiURL.mk H.1.host H.1.port P (CE N U.query inQ).1 (CE N U.fragment inQ).1 U.hasQuery U.hasFrag)) fun y25=>
            if(decide ((y25.length:Int)>4096))=true then
             (some ((ApiURL.mk [] 0 [] [] [] false false),5):Option (ApiURL×Int))
            else
             some ((ApiURL.mk H.1.host H.1.port P (CE N U.query inQ).1 (CE N U.fragment inQ).1 U.hasQuery U.hasFrag),0))=some (if(JX ⟨H.1.host,H.1.port,MB N (CE N U.path inP).1,(CE N U.query inQ).1,(CE N U.fragment inQ).1,U.hasQuery,U.hasFrag⟩).length>4096 then(Lj,5)
  else(⟨H.1.host,H.1.port,MB N (CE N U.path inP).1,(CE N U.query inQ).1,(CE N U.fragment inQ).1,U.hasQuery,U.hasFrag⟩,0)):=by
    intro P hP
    subst hP
    rw[Qm _ ⟨q1,by dsimp only;omega,by dsimp only;omega,by dsimp only;omega,by dsimp only;omega⟩ (by omega),Option.bind_some]
    split
    · rename_i hx;rw[if_pos (by simp only[decide_eq_true_eq]at hx;omega)];rfl
    · rename_i hx;rw[if_neg (by simp only[decide_eq_true_eq]at hx;omega)]
  by_cases e5:(Hf N (CE N U.path inP).1 []==[])=true
  · rw[if_pos e5]at hp⊢
    exact fin _ hp.symm
  · rw[if_neg e5]at hp⊢
    exact fin _ hp.symm
theorem Tp (s:List UInt8) (hb:s.length≤1000000) (hN:20000≤N):GU N s=some (Mm N s):=by
  unfold GU Mm
  by_cases hl:s.length>4096
  · rw[if_pos (by simp only[decide_eq_true_eq];omega),if_pos hl];rfl
  rw[if_neg (by simp only[decide_eq_true_eq];omega),if_neg hl,Pk s hb,Option.bind_some]
  obtain⟨l1,l2,l3,l4,l5⟩:=Lt s
  generalize Iw s=X at *
  obtain⟨U,e⟩:=X
  dsimp only[AB]at *
  by_cases he:(e !=0)=true
  · rw[if_pos he,if_pos he];rfl
  rw[if_neg he,if_neg he]
  cases hS:U.hasScheme
  · rfl
  rw[if_pos rfl,Vj _ _ (by omega) (by decide),Option.bind_some]
  cases hE:(U.scheme.map FK==List.map FK [104,116,116,112,115])
  · rfl
  simp only[Bool.not_true,Bool.and_self,Bool.false_eq_true,if_false]
  unfold AIg
  cases hA:U.hasAuthority
  · rfl
  rw[if_pos rfl,if_neg (by decide)]
  rw[JB _ [64] (by decide) (by omega),Option.bind_some,AXz (by omega)]
  cases hat:U.authority.contains 64
  rotate_left
  · rfl
  rw[if_neg (by decide),if_neg (by decide),AZP _ (by omega),Option.bind_some]
  have q1:=AIv U.authority
  have q2:=AAd U.authority
  generalize hpS U.authority=H at *
  by_cases e1:(H.2 !=0)=true
  · rw[if_pos e1,if_pos e1];rfl
  rw[if_neg e1,if_neg e1]
  have n1:=GK (N:=N) U.path inP
  have n2:=GK (N:=N) U.query inQ
  have n3:=GK (N:=N) U.fragment inQ
  rw[Gx U.path _ hN (by decide),Option.bind_some]
  change (if((CE N U.path inP).2 !=0)=true then _ else _)=_
  by_cases e2:((CE N U.path inP).2 !=0)=true
  · rw[if_pos e2,if_pos e2];rfl
  rw[if_neg e2,if_neg e2,Gx U.query _ hN (by decide),Option.bind_some]
  change (if((CE N U.query inQ).2 !=0)=true then _ else _)=_
  by_cases e3:((CE N U.query inQ).2 !=0)=true
  · rw[if_pos e3,if_pos e3];rfl
  rw[if_neg e3,if_neg e3,Gx U.fragment _ hN (by decide),Option.bind_some]
  change (if((CE N U.fragment inQ).2 !=0)=true then _ else _)=_
  by_cases e4:((CE N U.fragment inQ).2 !=0)=true
  · rw[if_pos e4,if_pos e4];rfl
  rw[if_neg e4,if_neg e4]
  change Option.bind (Cs N (CE N U.path inP).1) _=_
  rw[Qw _ hN (by omega),Option.bind_some]
  have pl:=Uy (N:=N) (CE N U.path inP).1
  have hp:MB N (CE N U.path inP).1=if(Hf N (CE N U.path inP).1 []==[])=true then [47]else Hf N (CE N U.path inP).1 []:=by
    unfold MB;split<;>simp_all
  have fin: ∀P:List UInt8,P=MB N (CE N U.path inP).1→(Option.bind (Ev N (ApiURL.mk H.1.host H.1.port P (CE N U.query inQ).1 (CE N U.fragment inQ).1 U.hasQuery U.hasFrag)) fun y25=>
            if(decide ((y25.length:Int)>4096))=true then
             (some ((ApiURL.mk [] 0 [] [] [] false false),5):Option (ApiURL×Int))
            else
             some ((ApiURL.mk H.1.host H.1.port P (CE N U.query inQ).1 (CE N U.fragment inQ).1 U.hasQuery U.hasFrag),0))=some (if(JX ⟨H.1.host,H.1.port,MB N (CE N U.path inP).1,(CE N U.query inQ).1,(CE N U.fragment inQ).1,U.hasQuery,U.hasFrag⟩).length>4096 then(Lj,5)
  else(⟨H.1.host,H.1.port,MB N (CE N U.path inP).1,(CE N U.query inQ).1,(CE N U.fragment inQ).1,U.hasQuery,U.hasFrag⟩,0)):=by
    intro P hP
    subst hP
    rw[Q9 _ ⟨q1,by dsimp only;omega,by dsimp only;omega,by dsimp only;omega,by dsimp only;omega⟩ (by omega),Option.bind_some]
    split
    · rename_i hx;rw[if_pos (by simp only[decide_eq_true_eq]at hx;omega)];rfl
    · rename_i hx;rw[if_neg (by simp only[decide_eq_true_eq]at hx;omega)]
  by_cases e5:(Hf N (CE N U.path inP).1 []==[])=true
  · rw[if_pos e5]at hp⊢
    exact fin _ hp.symm
  · rw[if_neg e5]at hp⊢
    exact fin _ hp.symm
theorem AKf{a b:List UInt8} (h:MU a) (hb:(a++58::b).length≤1000000) (hN:20000≤N):Mm N (a++58::b)=AM7 N a b:=by
  unfold Mm AM7
  by_cases hl:(a++58::b).length>4096
  · rw[if_pos hl,if_pos hl]
  rw[if_neg hl,if_neg hl]
  have e:Iw (a++58::b)=(ANJ a b,0):=Option.some.inj ((NH (N:=N) _ hb (by omega)).symm.trans (AXB h (by omega) hN))
  rw[e,if_neg (show¬(((0:Int) !=0)=true) by decide),show(ANJ a b).hasScheme=true from rfl,show(ANJ a b).scheme=a from rfl,AO3 h]
  rfl
theorem AWt{a b:List UInt8} (h:MU a) (hb:(a++58::b).length≤1000000) (hN:20000≤N):F3 N (a++58::b)=some (AM7 N a b):=by
  rw[Uz _ hb hN,AKf h hb hN]
theorem AWV{a b:List UInt8} (h:MU a) (hb:(a++58::b).length≤1000000) (hN:20000≤N):GU N (a++58::b)=some (AM7 N a b):=by
  rw[Tp _ hb hN,AKf h hb hN]
end
end Go.VM
namespace Go.VM
section
variable{N:Nat}
theorem MF{n b:Nat} (h:n≤1000000) (hb:b≤1000):Cg n b:=by
  unfold Cg
  have:n * b≤1000000 * 1000:=Nat.mul_le_mul h hb
  omega
theorem Aav (c:UInt8) (l:List UInt8) (hb:l.length≤1000000):BC N l [c]=some (((l.takeWhile (· !=c)).length:Nat):Int):=by
  have hw:(fun x:UInt8=>!([c]:List UInt8).contains x)=(fun x=>x !=c):=by funext x;simp[bne];rfl
  rw[JB l [c] (by simp) (by omega),hw]
theorem ASy{c:UInt8}{l:List UInt8}:((((l.takeWhile (· !=c)).length:Nat):Int)==(l.length:Int))=!l.contains c:=by
  cases h:l.contains c
  · rw[LK l h];simp
  · have:=JV h;simp;omega
theorem Tw{c:UInt8}{l:List UInt8} (h:l.contains c=true) (hb:l.length≤1000000):
    sub l 0 (((l.takeWhile (· !=c)).length:Nat):Int)=some (AQ c l).1∧sub l (wr .i64 ((((l.takeWhile (· !=c)).length:Nat):Int)+1)) (l.length:Int)=some (AQ c l).2.1:=by
  have hlt:=JV h
  obtain⟨s1,s2⟩:=Yw h hb
  rw[Ic,if_pos h]at s1 s2
  have w0:wr .i64 (((l.takeWhile (· !=c)).length:Int)+0)=((l.takeWhile (· !=c)).length:Int):=by rw[AR (by omega)];omega
  rw[w0]at s1
  exact⟨s1,s2⟩
theorem AJh{c:UInt8}{l:List UInt8}:(AQ c l).2.2=l.contains c:=by
  cases h:l.contains c
  · rw[MH h]
  · rw[Fg h]
end
end Go.VM
namespace Go.VM
section
variable{N:Nat}
theorem Zj: ∀(k:Nat) (t out:List UInt8),(OH k t out).1.length≤out.length+t.length
  |0,t,out=>by simp[OH]
  |k+1,[],out=>by simp[OH]
  | k+1,c::t,out=>by
    rw[OH]
    split
    · cases h:JW t with
      |none=>simp
      | some x=>
        have h2:=Ol h
        have:=Zj k (t.drop 2) (out++[x])
        simp only[List.length_append,List.length_drop,List.length_cons,List.length_nil]at *
        omega
    · have:=Zj k t (out++[c])
      simp only[List.length_append,List.length_cons,List.length_nil]at *;omega
theorem Ui (s:List UInt8):(Nl N s).1.length≤s.length:=by
  unfold Nl
  split
  · simp
  · have:=Zj N s [];simpa using this
end
end Go.VM
