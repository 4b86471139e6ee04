import Derived.Test.YtjgdhjpafjpjgaaGreatDoorL5
import Derived.Test.YtjgdhjpafjpjgaaGreatDoorRd
import Derived.KernelRfl
set_option linter.unusedVariables false
set_option linter.unusedSimpArgs false
namespace Go.VM
section
variable{N:Nat}
def id0:ApiID:=⟨0,[],[],0⟩
def TJ (N:Nat) (s:List UInt8):ApiID×Int:=if((N9 N s).2 !=0)=true then(id0,(N9 N s).2)else(⟨1,Vi (N9 N s).1,(N9 N s).1.host,0⟩,0)
def TA (N:Nat) (s:List UInt8):ApiID×Int:=if((NG N s).2 !=0)=true then(id0,(NG N s).2)else(⟨2,VL (NG N s).1,(NG N s).1.host,0⟩,0)
def VU (N:Nat) (a b:List UInt8):ApiID×Int:=if((Oq N a b).2 !=0)=true then(id0,(Oq N a b).2)else(⟨3,KQ (Oq N a b).1,(Oq N a b).1.host,(Oq N a b).1.port⟩,0)
def VW (N:Nat) (s:List UInt8):ApiID×Int:=
  if((Ib s).2 !=0)=true then(id0,(Ib s).2)
  else if((Ot N (Ib s).1).2 !=0)=true then(id0,(Ot N (Ib s).1).2)
  else(⟨4,Gx (Ot N (Ib s).1).1,(CE N (Ot N (Ib s).1).1).1.host,(CE N (Ot N (Ib s).1).1).1.port⟩,0)
def KM (s:List UInt8):List UInt8:=(Aa 58 s).1.map Dn
def idS (N:Nat) (s:List UInt8):ApiID×Int:=
  if s.length>4096 then(id0,5)
  else if s.contains 58=false then(id0,60)
  else if(KM s==[97,99,99,116])=true then TJ N s
  else if(KM s==[109,97,105,108,116,111])=true then TA N s
  else if(KM s==[104,116,116,112,115])=true then VU N (Aa 58 s).1 (Aa 58 s).2.1
  else if(KM s==[100,105,100])=true then VW N s
  else(id0,60)
theorem AQq (s:List UInt8) (hb:s.length≤1000000) (hN:20000≤N):FM N s=some (TJ N s):=by
  obtain⟨l1,l2⟩:=Q9 (N:=N) s
  unfold FM TJ
  rw[AL8 s hb hN,Option.bind_some,AKg _ ⟨by omega,by omega⟩,Option.bind_some]
  split<;>rfl
theorem AQc (s:List UInt8) (hb:s.length≤1000000) (hN:20000≤N):FT N s=some (TA N s):=by
  obtain⟨l1,l2⟩:=Qs (N:=N) s
  unfold FT TA
  rw[AOb s hb hN,Option.bind_some,AJr _ ⟨by omega,by omega⟩,Option.bind_some]
  split<;>rfl
theorem AGc (a b:List UInt8):Ue (Oq N a b).1∧(KQ (Oq N a b).1).length≤20000:=by
  have hf: ∀u:ApiURL,GI u.port→u.host.length≤300→u.path.length≤4100→u.query.length≤4100→u.fragment.length≤4100→Ue u∧(KQ u).length≤20000:=fun u h1 h2 h3 h4 h5=>by
    refine⟨⟨h1,by omega,by omega,by omega,by omega⟩,?_⟩
    have hh:=Qa u.host u.port
    have ht:=Ti u
    unfold KQ
    split<;>(simp only[List.length_append,List.length_cons,List.length_nil];omega)
  have hz:Ue LB∧(KQ LB).length≤20000:=hf _ (by unfold GI LB;simp) (by simp[LB]) (by simp[LB]) (by simp[LB]) (by simp[LB])
  unfold Oq
  split
  · exact hz
  rename_i hl
  obtain⟨l1,l2,l3,l4⟩:=Yl a b
  simp only[List.length_append,List.length_cons]at hl
  generalize L8 a b=U at *
  have q1:=Yf U.authority
  have q2:=SH U.authority
  have n1:=G6 (N:=N) U.path inP
  have n2:=G6 (N:=N) U.query inQ
  have n3:=G6 (N:=N) U.fragment inQ
  have pl:=UH (N:=N) (CR N U.path inP).1
  unfold AAI
  repeat' split
  all_goals first|exact hz|exact hf _ q1 (by dsimp only;omega) (by dsimp only;omega) (by dsimp only;omega) (by dsimp only;omega)
theorem AT5{a b:List UInt8} (h:Gq a) (hb:(a++58::b).length≤1000000) (hN:20000≤N):Fz N (a++58::b)=some (VU N a b):=by
  unfold Fz VU
  rw[AH6 h hb hN,Option.bind_some,Qk _ (AGc a b).1 (by omega),Option.bind_some]
  split<;>rfl
theorem ASe{a b:List UInt8} (h:Gq a) (hb:(a++58::b).length≤1000000) (hN:20000≤N):MH N (a++58::b)=some (VU N a b):=by
  unfold MH VU
  rw[AIP h hb hN,Option.bind_some,QV _ (AGc a b).1 (by omega),Option.bind_some]
  split<;>rfl
theorem AK3{h:List UInt8}{p:Int}{path:List UInt8}{L:List (List UInt8)}:(N7 N h p path L).1.method.length≤4096∧(N7 N h p path L).1.iD.length≤4096:=by
  have hf: ∀I:List UInt8,¬(Gx ⟨GL,I⟩).length>4096→(⟨GL,I⟩:ApiDID).method.length≤4096∧(⟨GL,I⟩:ApiDID).iD.length≤4096:=fun I hI=>by
    have:=(Py I).2.2
    exact⟨by simp[GL],by dsimp only;omega⟩
  unfold N7
  repeat' split
  all_goals first|exact hf _ (by assumption)|simp[IK]
theorem UE (d:ApiDID):(Ot N d).1.method.length≤4096∧(Ot N d).1.iD.length≤4096:=by
  unfold Ot QB
  split
  · simp[IK]
  split
  · exact AK3
  · simp[IK]
theorem ATw (s:List UInt8) (hb:s.length≤1000000) (hN:20000≤N):Fu N s=some (VW N s):=by
  obtain⟨l1,l2⟩:=AC3 s
  obtain⟨c1,c2⟩:=UE (N:=N) (Ib s).1
  unfold Fu VW
  rw[AIF s hb hN,Option.bind_some,AMH _ l1 (by omega) hN,Option.bind_some,Vo _ c1 (by omega) hN,Option.bind_some,S9 _ ⟨by omega,by omega⟩,Option.bind_some]
  split
  · rfl
  split
  · rfl
  rename_i h
  rw[AKO hN (by simpa using h)]
  rfl
theorem ATT (s:List UInt8) (hb:s.length≤1000000) (hN:20000≤N):GK N s=some (VW N s):=by
  obtain⟨l1,l2⟩:=AC3 s
  obtain⟨c1,c2⟩:=UE (N:=N) (Ib s).1
  unfold GK VW
  rw[AIb s hb hN,Option.bind_some,ANC _ l1 (by omega) hN,Option.bind_some,AJ1 _ c1 (by omega) hN,Option.bind_some,Tw _ ⟨by omega,by omega⟩,Option.bind_some]
  split
  · rfl
  split
  · rfl
  rfl
theorem ADp{s:List UInt8} (hc:s.contains 58=true):s=(Aa 58 s).1++58::(Aa 58 s).2.1:=by
  have hlt:=JG hc
  rw[EN hc]
  have e:=List.takeWhile_append_dropWhile (p:=(· !=(58:UInt8))) (l:=s)
  have hd:s.dropWhile (· !=(58:UInt8))=58::(s.dropWhile (· !=(58:UInt8))).drop 1:=by
    cases hq:s.dropWhile (· !=(58:UInt8))with
    |nil=>rw[hq,List.append_nil]at e;rw[e]at hlt;omega
    | cons y ys=>
      have:=List.head?_dropWhile_not (fun z=>z !=(58:UInt8)) s
      rw[hq]at this
      simp at this
      simp[this]
  conv=>lhs;rw[←e,hd]
theorem ATC (s:List UInt8) (hb:s.length≤1000000) (hN:20000≤N):Iu N s=some (idS N s):=by
  have hl:=FD 58 s
  unfold Iu idS
  by_cases h1:s.length>4096
  · rw[if_pos (by simp;omega),if_pos h1];rfl
  rw[if_neg (by simp;omega),if_neg h1,Ms 58 s (by omega),Option.bind_some]
  unfold Lh
  rw[Option.bind_some,lower_eq _ (by omega),Option.bind_some,Oh]
  dsimp only[AJ]
  change (if(KM s==[97,99,99,116])=true then _ else(if(KM s==[109,97,105,108,116,111])=true then _ else(if(KM s==[104,116,116,112,115])=true then _ else(if(KM s==[100,105,100])=true then _ else _))))=_
  cases hc:s.contains 58
  · cases (KM s==[97,99,99,116])<;>cases (KM s==[109,97,105,108,116,111])<;>cases (KM s==[104,116,116,112,115])<;>cases (KM s==[100,105,100])<;>rfl
  rw[AQq s hb hN,AQc s hb hN,ATw s hb hN]
  by_cases k1:(KM s==[97,99,99,116])=true
  · rw[k1];rfl
  rw[Bool.eq_false_iff.2 k1]
  by_cases k2:(KM s==[109,97,105,108,116,111])=true
  · rw[k2];rfl
  rw[Bool.eq_false_iff.2 k2]
  by_cases k3:(KM s==[104,116,116,112,115])=true
  · have hs:=ADp hc
    have hA:Gq (Aa 58 s).1:=by unfold Gq;simpa[KM]using k3
    have:=AT5 (N:=N) (b:=(Aa 58 s).2.1) hA (by rw[←hs];exact hb) hN
    rw[←hs]at this
    rw[k3,this];rfl
  rw[Bool.eq_false_iff.2 k3]
  by_cases k4:(KM s==[100,105,100])=true
  · rw[k4];rfl
  rw[Bool.eq_false_iff.2 k4]
  rfl
theorem APB (s:List UInt8) (hb:s.length≤1000000) (hN:20000≤N):Ig N s=some (idS N s):=by
  have hl:=FD 58 s
  obtain⟨a1,a2⟩:=Q9 (N:=N) s
  obtain⟨m1,m2⟩:=Qs (N:=N) s
  unfold Ig idS
  by_cases h1:s.length>4096
  · rw[if_pos (by simp;omega),if_pos h1];rfl
  rw[if_neg (by simp;omega),if_neg h1,ARt 58 s hb,Option.bind_some,QI]
  cases hc:s.contains 58
  · rfl
  rw[if_neg (by decide),if_neg (by decide),(Px hc hb).1,Option.bind_some,OO _ (by omega),Option.bind_some]
  change (if(KM s==[97,99,99,116])=true then _ else(if(KM s==[109,97,105,108,116,111])=true then _ else(if(KM s==[104,116,116,112,115])=true then _ else(if(KM s==[100,105,100])=true then _ else _))))=_
  rw[AMZ s hb hN,AOp s hb hN,ATT s hb hN]
  simp only[Option.bind_some]
  rw[ALZ _ ⟨by omega,by omega⟩,ALm _ ⟨by omega,by omega⟩]
  simp only[Option.bind_some]
  by_cases k1:(KM s==[97,99,99,116])=true
  · rw[if_pos k1,if_pos k1];unfold TJ;split<;>rfl
  rw[if_neg k1,if_neg k1]
  by_cases k2:(KM s==[109,97,105,108,116,111])=true
  · rw[if_pos k2,if_pos k2];unfold TA;split<;>rfl
  rw[if_neg k2,if_neg k2]
  by_cases k3:(KM s==[104,116,116,112,115])=true
  · have hs:=ADp hc
    have hA:Gq (Aa 58 s).1:=by unfold Gq;simpa[KM]using k3
    have:=ASe (N:=N) (b:=(Aa 58 s).2.1) hA (by rw[←hs];exact hb) hN
    rw[←hs]at this
    rw[if_pos k3,if_pos k3,this];rfl
  rw[if_neg k3,if_neg k3]
  split<;>rfl
theorem AUh (s:List UInt8):GI (idS N s).1.port∧(idS N s).1.host.length≤1000000∧(idS N s).1.text.length≤100000:=by
  obtain⟨a1,a2⟩:=Q9 (N:=N) s
  obtain⟨m1,m2⟩:=Qs (N:=N) s
  have hz: ∀e:Int,GI (id0,e).1.port∧(id0,e).1.host.length≤1000000∧(id0,e).1.text.length≤100000:=fun e=>⟨by unfold GI id0;simp,by simp[id0],by simp[id0]⟩
  have h0:GI 0:=by unfold GI;omega
  unfold idS
  split
  · exact hz _
  split
  · exact hz _
  split
  · unfold TJ
    split
    · exact hz _
    · refine⟨h0,by dsimp only;omega,?_⟩
      unfold Vi
      simp only[List.length_append,List.length_cons,List.length_nil];omega
  split
  · unfold TA
    split
    · exact hz _
    · refine⟨h0,by dsimp only;omega,?_⟩
      have:=Li NI (NG N s).1.local_
      unfold VL
      simp only[List.length_append,List.length_cons,List.length_nil];omega
  split
  · unfold VU
    split
    · exact hz _
    · obtain⟨u1,u2⟩:=AGc (N:=N) (Aa 58 s).1 (Aa 58 s).2.1
      exact⟨u1.1,u1.2.1,by dsimp only;omega⟩
  split
  · unfold VW
    obtain⟨c1,c2⟩:=UE (N:=N) (Ib s).1
    split
    · exact hz _
    split
    · exact hz _
    · obtain⟨p1,p2⟩:=MZ (N:=N) (Ot N (Ib s).1).1
      refine⟨p1,by dsimp only;omega,?_⟩
      unfold Gx
      simp only[List.length_append,List.length_cons,List.length_nil];omega
  · exact hz _
end
end Go.VM
namespace Go.VM
theorem ASq:M5 1099511627776=some true:=by kernel_rfl
section
variable{N:Nat}
def eqI (a b:ApiID):Bool:=a.kind==b.kind&&(a.text==b.text&&(a.host==b.host&&a.port==b.port))
theorem AN0 (a:ApiID):eqI a a=true:=by unfold eqI;simp
def OB (d:MadeDice):Prop:= ∀a,a∈d.l→0≤a∧a≤255
theorem AH5{d:MadeDice} (hd:OB d) (hl:d.l.length≤1000){n:Nat} (h1:1≤n) (h2:n≤1000):Ok (Fj N d (n:Int)) fun r=>(0≤r.1∧r.1<n)∧OB r.2∧r.2.l.length≤1000:=by
  unfold Fj
  have hz:Ok (some ((0:Int),d)) fun r=>(0≤r.1∧r.1<n)∧OB r.2∧r.2.l.length≤1000:=.ret ⟨⟨Int.le_refl _,by dsimp only;omega⟩,hd,hl⟩
  dsimp only[AJ]
  cases hq:d.l with
  |nil=>exact hz
  | cons a t=>
    rw[hq]at hl
    simp only[List.length_cons]at hl
    obtain⟨a1,a2⟩:=hd a (by rw[hq];simp)
    rw[if_neg (by simp;omega)]
    refine Ok.ite (fun _=>hz) fun _=>?_
    have e1:sub (a::t) 1 ((a::t).length:Int)=some t:=by
      rw[show(1:Int)=((1:Nat):Int)from rfl,CV _ 1 _ (by simp) (Nat.le_refl _)];simp
    rw[show idx (a::t) 0=some a from rfl,Option.bind_some,e1,Option.bind_some,BH (by omega)]
    refine .grd (by omega) (.ret ⟨⟨?_,?_⟩,fun b hb=>hd b (by rw[hq];simp[hb]),by dsimp only;omega⟩)
    · exact Int.tmod_nonneg _ a1
    · exact Int.tmod_lt_of_pos _ (by omega)
theorem Nt{d:MadeDice} (hd:OB d) (hl:d.l.length≤1000){l:List (List UInt8)} (h1:1≤l.length) (h2:l.length≤1000) (h3: ∀s,s∈l→s.length≤30):Ok (Co N d l) fun r=>r.1.length≤30∧OB r.2∧r.2.l.length≤1000:=by
  unfold Co
  refine .bind (AH5 hd hl h1 h2) fun y ⟨⟨y1,y2⟩,y3,y4⟩=>?_
  refine .bind (Ok.idx y1 y2) fun x hx=>.ret ⟨h3 x (List.mem_of_getElem? hx),y3,y4⟩
theorem okS{α:Type}{n:Nat}{x:Option α}{P:α→Prop} (h:n≤1000000) (hx:Ok x P):Ok (grd (AV n) x) P:=by rw[BL (by omega)];exact hx
theorem APm{d:MadeDice} (hd:OB d) (hl:d.l.length≤1000):Ok (MO N d) fun r=>r.1.length≤1000:=by
  unfold MO OM
  refine .bind (Q:=fun r=>r.1.length≤30∧OB r.2∧r.2.l.length≤1000) ?_ fun y ⟨y1,y2,y3⟩=>?_
  · refine .letL (.bind (Nt hd hl (by decide) (by decide) (by decide)) fun r hr=>.ret hr)
  refine .bind (AH5 y2 y3 (n:=6) (by decide) (by decide)) fun z ⟨_,z1,z2⟩=>?_
  refine .meet (fun _=>True) (fun j _=>?_) fun k' hk=>.ite (fun _=>hk _ trivial) fun _=>hk _ trivial
  refine .ite (fun _=>?_) fun _=>.ite (fun _=>?_) fun _=>.ite (fun _=>?_) fun _=>?_
  · refine .letL (.bind (Nt z1 z2 (by decide) (by decide) (by decide)) fun a ⟨a1,a2,a3⟩=>?_)
    refine .letL (.bind (Nt a2 a3 (by decide) (by decide) (by decide)) fun b ⟨b1,b2,b3⟩=>?_)
    refine okS (by omega) (okS (by simp;omega) ?_)
    refine .letL (.bind (Nt b2 b3 (by decide) (by decide) (by decide)) fun c ⟨c1,c2,c3⟩=>?_)
    exact okS (by simp;omega) (.ret (by simp;omega))
  · refine .letL (.bind (Nt z1 z2 (by decide) (by decide) (by decide)) fun a ⟨a1,a2,a3⟩=>?_)
    refine okS (by simp;omega) (okS (by simp;omega) ?_)
    refine .letL (.bind (Nt a2 a3 (by decide) (by decide) (by decide)) fun c ⟨c1,c2,c3⟩=>?_)
    exact okS (by simp;omega) (.ret (by simp;omega))
  · refine okS (by simp;omega) ?_
    refine .letL (.bind (Nt z1 z2 (by decide) (by decide) (by decide)) fun a ⟨a1,a2,a3⟩=>?_)
    exact okS (by simp;omega) (.ret (by simp;omega))
  · refine .meet (fun j=>j.length≤30) (fun j hj=>?_) fun k' hk=>.ite (fun _=>hk _ (by decide)) fun _=>hk _ y1
    refine okS (by simp;omega) ?_
    refine .letL (.bind (Nt z1 z2 (by decide) (by decide) (by decide)) fun a ⟨a1,a2,a3⟩=>?_)
    exact okS (by simp;omega) (.ret (by simp;omega))
theorem AOR{l:List Int} (h: ∀a,a∈l→0≤a∧a≤255) (hN:20000≤N):Ok (Fg N l) fun x=>x.text.length≤100000:=by
  unfold Fg
  refine .bind (Q:=fun d=>OB d∧d.l.length≤1000) ?_ fun d ⟨d1,d2⟩=>.bind (APm d1 d2) fun t ht=>?_
  · unfold QR
    have hm: ∃n:Nat,(if 200<(l.length:Int)then 200 else(l.length:Int))=(n:Int)∧n≤l.length∧n≤200:=by
      by_cases h2:200<(l.length:Int)
      · exact⟨200,by rw[if_pos h2];rfl,by omega,Nat.le_refl _⟩
      · exact⟨l.length,by rw[if_neg h2],Nat.le_refl _,by omega⟩
    obtain⟨n,e,n1,n2⟩:=hm
    rw[e,show(0:Int)=((0:Nat):Int)from rfl,CV l 0 n (Nat.zero_le _) n1,Option.bind_some]
    refine .ret ⟨fun a ha=>h a ?_,?_⟩
    · simp only[List.drop_zero,Nat.sub_zero]at ha
      exact List.mem_of_mem_take ha
    · simp;omega
  · rw[APB _ (by omega) hN,Option.bind_some]
    exact .ret (AUh _).2.2
theorem AOW (x:ApiID) (h:AAw x):Qe N x=some (decide (x.text.length+x.host.length≤1000)):=by
  obtain⟨_,h2,h3,_⟩:=h
  have hr:reachBytes=140737488351232:=rfl
  unfold Qe
  rw[BH (by omega)]
  congr 1
  rw[decide_eq_decide]
  omega
end
end Go.VM
namespace Go.VM
section
variable{N:Nat}
def Nr (N:Nat) (a:ApiID) (acc:List ApiID) (t:List UInt8):List ApiID:=
  if((idS N t).2==0)=false then acc
  else if eqI (idS N t).1 a=true then acc
  else if(acc.any fun x=>eqI (idS N t).1 x)=true then acc
  else if acc.length<64 then acc++[(idS N t).1]else acc
theorem AJE{a:ApiID}{acc:List ApiID}{t:List UInt8} (h:acc.length≤64):(Nr N a acc t).length≤64:=by
  unfold Nr
  split
  · exact h
  split
  · exact h
  split
  · exact h
  split
  · rw[List.length_append,List.length_cons,List.length_nil];omega
  · exact h
theorem Sy{a:ApiID}: ∀(xs:List (List UInt8)) (acc:List ApiID),acc.length≤64→(xs.foldl (Nr N a) acc).length≤64
  |[],_,h=>h
  |x::xs,acc,h=>Sy xs _ (AJE h)
theorem Js{n b:Nat} (h:n≤1000000) (hb:b≤1000):Cg n b:=by
  unfold Cg
  have:n * b≤1000000 * 1000:=Nat.mul_le_mul h hb
  omega
theorem Vu (y:ApiID): ∀(xs:List ApiID) (i:Int),0≤i→ ∃r,Aq N y (fun _=>some (-1)) xs i=some r∧decide (r≥0)=xs.any fun x=>eqI y x
  |[],i,_=>⟨-1,by rw[Aq],rfl⟩
  | x::xs,i,hi=>by
    rw[Aq,List.any_cons]
    change∃r,(if eqI y x=true then _ else _)=some r∧_
    cases h:eqI y x
    · obtain⟨r,h1,h2⟩:=Vu y xs (i+1) (by omega)
      exact⟨r,by rw[if_neg (by decide)];exact h1,by rw[h2];rfl⟩
    · exact⟨i,by rw[if_pos rfl],by simpa using hi⟩
theorem AJb (xs:List ApiID) (y:ApiID) (hb:xs.length≤1000000):CG N xs y=some (xs.any fun x=>eqI y x):=by
  obtain⟨r,h1,h2⟩:=Vu (N:=N) y xs 0 (Int.le_refl _)
  unfold CG ED
  dsimp only[AJ]
  rw[BL (by omega),h1,Option.bind_some,h2]
theorem ASb (hN:20000≤N) (a:ApiID) (k:List ApiID→Option (List ApiID)): ∀(xs:List (List UInt8)) (s:List ApiID),(∀t,t∈xs→t.length≤1000000)→s.length≤64→Et N a 64 k xs s=k (xs.foldl (Nr N a) s)
  |[],s,_,_=>by rw[Et];rfl
  | t::xs,s,h,hs=>by
    have ih:=fun s' hs'=>ASb hN a k xs s' (fun y hy=>h y (by simp[hy])) hs'
    rw[Et,List.foldl_cons]
    dsimp only[AJ]
    rw[ATC _ (h t (by simp)) hN,Option.bind_some,AJb _ _ (by omega),Option.bind_some]
    simp only[AZ (Js (show s.length+1≤1000000 by omega) (show 48≤1000 by omega))]
    change (if((idS N t).2==0)=true then(if eqI (idS N t).1 a=true then _ else _)else _)=_
    unfold Nr
    cases ((idS N t).2==0)
    · exact ih s hs
    rw[if_pos rfl,if_neg (show¬(true=false) by decide)]
    cases eqI (idS N t).1 a
    rotate_left
    · exact ih s hs
    rw[if_neg (by decide),if_neg (show¬(false=true) by decide)]
    cases (s.any fun x=>eqI (idS N t).1 x)
    rotate_left
    · exact ih s hs
    rw[if_neg (by decide),if_neg (show¬(false=true) by decide)]
    by_cases h64:s.length<64
    · rw[decide_eq_true (show(s.length:Int)<64 by omega),if_pos rfl,if_pos h64]
      exact ih _ (by rw[List.length_append,List.length_cons,List.length_nil];omega)
    · rw[decide_eq_false (show¬(s.length:Int)<64 by omega),if_neg (by decide),if_neg h64]
      exact ih s hs
theorem ASc (hN:20000≤N) (a:ApiID) (k:List ApiID→Option (List ApiID)): ∀(xss:List (List (List UInt8))) (s:List ApiID),(∀xs,xs∈xss→xs.length≤1000000∧ ∀t,t∈xs→t.length≤1000000)→s.length≤64→Eu N a 64 k xss s=k (xss.foldl (fun s xs=>xs.foldl (Nr N a) s) s)
  |[],s,_,_=>by rw[Eu];rfl
  | xs::xss,s,h,hs=>by
    obtain⟨h1,h2⟩:=h xs (by simp)
    rw[Eu]
    dsimp only[AJ]
    rw[BL (by omega),ASb hN a _ xs s h2 hs,List.foldl_cons]
    exact ASc hN a k xss _ (fun y hy=>h y (by simp[hy])) (Sy xs s hs)
theorem ATr (hN:20000≤N) (a:ApiID) (xss:List (List (List UInt8))) (hl:xss.length≤1000000) (h: ∀xs,xs∈xss→xs.length≤1000000∧ ∀t,t∈xs→t.length≤1000000):MP N a 64 xss=some (xss.foldl (fun s xs=>xs.foldl (Nr N a) s) []):=by
  unfold MP
  dsimp only[AJ]
  rw[BL (by omega),ASc hN a _ xss [] h (by simp)]
theorem AN6 (y:ApiID×Int) (k:Bool→Option (List ApiID)): ∀(xs:List ApiID) (b:Bool),CX N y k xs b=k (b||xs.any fun x=>eqI y.1 x)
  |[],b=>by rw[CX];simp
  | x::xs,b=>by
    rw[CX,List.any_cons]
    dsimp only[AJ]
    rw[AN6 y k xs,AN6 y k xs]
    change (if b=true then _ else k (eqI y.1 x||_))=_
    cases b<;>rfl
theorem ASP (hN:20000≤N) (a:ApiID) (k:List ApiID→Option (List ApiID)): ∀(xs:List (List UInt8)) (s:List ApiID),(∀t,t∈xs→t.length≤1000000)→s.length≤64→CZ N a k xs s=k (xs.foldl (Nr N a) s)
  |[],s,_,_=>by rw[CZ];rfl
  | t::xs,s,h,hs=>by
    have ih:=fun s' hs'=>ASP hN a k xs s' (fun y hy=>h y (by simp[hy])) hs'
    rw[CZ,List.foldl_cons]
    dsimp only[AJ]
    rw[APB _ (h t (by simp)) hN,Option.bind_some]
    simp only[BL (show s.length≤4611686018427387904 by omega),AN6,AZ (Js (show s.length+1≤1000000 by omega) (show 48≤1000 by omega))]
    have e:((idS N t).2 !=0)=!((idS N t).2==0):=rfl
    rw[e]
    change (if(!(idS N t).2==0)=true then _ else(if(eqI (idS N t).1 a||s.any fun x=>eqI (idS N t).1 x)=true then _ else _))=_
    unfold Nr
    cases ((idS N t).2==0)
    · exact ih s hs
    rw[if_neg (by decide),if_neg (show¬(true=false) by decide)]
    cases eqI (idS N t).1 a
    rotate_left
    · exact ih s hs
    rw[Bool.false_or,if_neg (show¬(false=true) by decide)]
    cases (s.any fun x=>eqI (idS N t).1 x)
    rotate_left
    · exact ih s hs
    rw[if_neg (by decide),if_neg (show¬(false=true) by decide)]
    by_cases h64:s.length<64
    · rw[decide_eq_true (show(s.length:Int)<64 by omega),if_pos rfl,if_pos h64]
      exact ih _ (by rw[List.length_append,List.length_cons,List.length_nil];omega)
    · rw[decide_eq_false (show¬(s.length:Int)<64 by omega),if_neg (by decide),if_neg h64]
      exact ih s hs
theorem ARA (hN:20000≤N) (a:ApiID) (xs:List (List UInt8)) (hl:xs.length≤1000000) (h: ∀t,t∈xs→t.length≤1000000):GZ N xs a=some (xs.foldl (Nr N a) []):=by
  unfold GZ
  dsimp only[AJ]
  rw[BL (by omega),ASP hN a _ xs [] h (by simp)]
def AAM (rel:List UInt8) (l:ApiLink):Bool:=l.rel==rel
def okK (j:ApiJRD):Prop:=j.subject.length≤300∧j.aliases.length≤70∧j.links.length≤70∧(∀a,a∈j.aliases→a.length≤300)∧ ∀l,l∈j.links→l.href.length≤900∧l.titles.length≤70∧l.properties.length≤70
theorem TQ (rel:List UInt8) (k:List ApiLink→Option (List ApiLink)): ∀(xs s:List ApiLink),(∀l,l∈xs→l.titles.length≤70∧l.properties.length≤70)→s.length+xs.length≤1000→EZ N rel k xs s=k (s++xs.filter (AAM rel))
  |[],s,_,_=>by rw[EZ];simp
  | x::xs,s,h,hb=>by
    obtain⟨h1,h2⟩:=h x (by simp)
    rw[List.length_cons]at hb
    have ih:=fun s' hs'=>TQ rel k xs s' (fun y hy=>h y (by simp[hy])) hs'
    rw[EZ,List.filter_cons]
    dsimp only[AJ]
    rw[AZ (Js (by simp;omega) (by omega)),AZ (Js (by simp;omega) (by omega)),AZ (Js (by omega) (by omega))]
    change (if AAM rel x=true then _ else _)=_
    cases AAM rel x
    · exact ih s (by omega)
    · rw[if_pos rfl,if_pos rfl,ih _ (by rw[List.length_append,List.length_cons,List.length_nil];omega),List.append_assoc];rfl
theorem Sz (rel:List UInt8) (k:List ApiLink→Option (List ApiLink)): ∀(xs s:List ApiLink),s.length+xs.length≤1000→DJ N rel k xs s=k (s++xs.filter (AAM rel))
  |[],s,_=>by rw[DJ];simp
  | x::xs,s,hb=>by
    rw[List.length_cons]at hb
    have ih:=fun s' hs'=>Sz rel k xs s' hs'
    rw[DJ,List.filter_cons]
    dsimp only[AJ]
    rw[AZ (Js (by omega) (by omega))]
    change (if AAM rel x=true then _ else _)=_
    cases AAM rel x
    · exact ih s (by omega)
    · rw[if_pos rfl,if_pos rfl,ih _ (by rw[List.length_append,List.length_cons,List.length_nil];omega),List.append_assoc];rfl
theorem ASa (k:List (List UInt8)→Option (List ApiID)): ∀(xs:List ApiLink) (s:List (List UInt8)),s.length+xs.length≤1000→Ck N k xs s=k (s++xs.map (·.href))
  |[],s,_=>by rw[Ck];simp
  | x::xs,s,hb=>by
    rw[List.length_cons]at hb
    rw[Ck,AZ (Js (by omega) (by omega)),ASa k xs _ (by rw[List.length_append,List.length_cons,List.length_nil];omega),List.append_assoc];rfl
theorem ASU (k:List (List UInt8)→Option (List ApiID)): ∀(xs:List ApiLink) (s:List (List UInt8)),s.length+xs.length≤1000→DK N k xs s=k (s++xs.map (·.href))
  |[],s,_=>by rw[DK];simp
  | x::xs,s,hb=>by
    rw[List.length_cons]at hb
    rw[DK,AZ (Js (by omega) (by omega)),ASU k xs _ (by rw[List.length_append,List.length_cons,List.length_nil];omega),List.append_assoc];rfl
def AFd:List UInt8:=[115,101,108,102]
def Qf (j:ApiJRD):List (List UInt8):=(j.links.filter (AAM AFd)).map (·.href)
def AJt (N:Nat) (j:ApiJRD) (a:ApiID):List ApiID:=((Qf j++[j.subject])++j.aliases).foldl (Nr N a) []
theorem AIK{j:ApiJRD} (h:okK j):(j.links.filter (AAM AFd)).length≤70∧(Qf j).length≤70∧ ∀t,t∈Qf j→t.length≤900:=by
  obtain⟨h1,h2,h3,h4,h5⟩:=h
  have hf:=List.length_filter_le (AAM AFd) j.links
  refine⟨by omega,by unfold Qf;rw[List.length_map];omega,fun t ht=>?_⟩
  obtain⟨l,hl,rfl⟩:=List.mem_map.1 ht
  exact(h5 l (List.mem_filter.1 hl).1).1
theorem AH8 (hN:20000≤N){j:ApiJRD} (h:okK j) (a:ApiID):Hu N j a=some (AJt N j a):=by
  obtain⟨b1,b2,b3⟩:=AIK h
  obtain⟨h1,h2,h3,h4,h5⟩:=h
  unfold Hu Pt AJt
  dsimp only[AJ]
  change Option.bind (grd _ (EZ N AFd _ j.links [])) _=_
  rw[BL (by omega),TQ _ _ _ _ (fun l hl=>(h5 l hl).2) (by simp;omega),Option.bind_some,List.nil_append,BL (by omega),ASa _ _ _ (by simp;omega),List.nil_append]
  change Option.bind (MP N a 64 [Qf j,[j.subject],j.aliases]) _=_
  rw[ATr hN a _ (by simp) ?_,Option.bind_some,List.foldl_append,List.foldl_append]
  · rfl
  · intro xs hxs
    simp only[List.mem_cons,List.not_mem_nil,or_false]at hxs
    rcases hxs with rfl|rfl|rfl
    · exact⟨by omega,fun t ht=>by have:=b3 t ht;omega⟩
    · exact⟨by simp,fun t ht=>by rcases List.mem_singleton.1 ht with rfl;omega⟩
    · exact⟨by omega,fun t ht=>by have:=h4 t ht;omega⟩
theorem AIV (hN:20000≤N){j:ApiJRD} (h:okK j) (a:ApiID):Ip N j a=some (AJt N j a):=by
  obtain⟨b1,b2,b3⟩:=AIK h
  obtain⟨h1,h2,h3,h4,h5⟩:=h
  unfold Ip Mg AJt
  dsimp only[AJ]
  change Option.bind (grd _ (DJ N AFd _ j.links [])) _=_
  rw[BL (by omega),Sz _ _ _ _ (by simp;omega),Option.bind_some,List.nil_append,BL (by omega),ASU _ _ _ (by simp;omega),List.nil_append]
  change grd (Cg ((Qf j).length+1) 16) (grd (Cg ((Qf j++[j.subject]).length+j.aliases.length) 16) (Option.bind (GZ N ((Qf j++[j.subject])++j.aliases) a) _))=_
  rw[AZ (Js (by omega) (by omega)),AZ (Js (by rw[List.length_append,List.length_cons,List.length_nil];omega) (by omega)),ARA hN a _ (by simp only[List.length_append,List.length_cons,List.length_nil];omega) ?_,Option.bind_some]
  intro t ht
  simp only[List.mem_append,List.mem_singleton]at ht
  rcases ht with(ht|ht)|ht
  · have:=b3 t ht;omega
  · subst ht;omega
  · have:=h4 t ht;omega
theorem V3 (l:List ApiID) (k:Unit→Option Bool): ∀(xs pre:List ApiID),l=pre++xs→Bl N l k xs (pre.length:Int)=k ()
  |[],pre,_=>by rw[Bl]
  | x::xs,pre,h=>by
    have e:idx l (pre.length:Int)=some x:=by
      rw[IR,h];simp
    rw[Bl,e,Option.bind_some]
    change (if eqI x x=true then _ else _)=_
    rw[if_pos (AN0 x)]
    have:=V3 l k xs (pre++[x]) (by rw[h];simp)
    rw[List.length_append,List.length_cons,List.length_nil]at this
    exact this
theorem TN (l:List ApiID) (hb:l.length≤1000000):FJ N l l=some true:=by
  unfold FJ
  dsimp only[AJ]
  rw[if_neg (by simp),BL (by omega)]
  exact V3 l _ l [] rfl
theorem AOZ (k:Unit→Option Bool){P:Bool→Prop} (hf:P false): ∀xs:List (List UInt8),((∀a,a∈xs→a.length≤300)→Ok (k ()) P)→Ok (Ev N k xs) P
  |[],h=>by rw[Ev];exact h (by simp)
  | x::xs,h=>by
    rw[Ev]
    refine .ite (fun _=>.ret hf) fun hc=>AOZ k hf xs fun hx=>h fun a ha=>?_
    rcases List.mem_cons.1 ha with rfl|ha
    · have:=of_decide_eq_false hc;omega
    · exact hx a ha
theorem AO9 (k:Unit→Option Bool){P:Bool→Prop} (hf:P false): ∀xs:List ApiLink,(∀l,l∈xs→Qw l)→((∀l,l∈xs→l.href.length≤900∧l.titles.length≤70∧l.properties.length≤70)→Ok (k ()) P)→Ok (Er N k xs) P
  |[],_,h=>by rw[Er];exact h (by simp)
  | x::xs,ho,h=>by
    obtain⟨o1,o2,o3,o4,_⟩:=ho x (by simp)
    have hr:reachBytes=140737488351232:=rfl
    rw[Er]
    dsimp only[AJ]
    rw[BH (n:=(x.rel.length:Int)+(x.type_.length:Int)) (by omega),BH (n:=(x.rel.length:Int)+(x.type_.length:Int)+(x.href.length:Int)) (by omega),BH (n:=(x.rel.length:Int)+(x.type_.length:Int)+(x.href.length:Int)+(x.template.length:Int)) (by omega)]
    refine .ite (fun _=>.ret hf) fun c1=>.ite (fun _=>.ret hf) fun c2=>.ite (fun _=>.ret hf) fun c3=>AO9 k hf xs (fun l hl=>ho l (by simp[hl])) fun hx=>h fun l hl=>?_
    have c1:=of_decide_eq_false c1
    have c2:=of_decide_eq_false c2
    have c3:=of_decide_eq_false c3
    rcases List.mem_cons.1 hl with rfl|hl
    · exact⟨by omega,by omega,by omega⟩
    · exact hx l hl
theorem AUW (j:ApiJRD) (h:UV j):Ok (Ny N j) fun b=>b=true→okK j:=by
  unfold Ny
  dsimp only[AJ]
  have hf:(false=true→okK j):=fun e=>by cases e
  refine .ite (fun _=>.ret hf) fun c1=>.ite (fun _=>.ret hf) fun c2=>.ite (fun _=>.ret hf) fun c3=>.ite (fun _=>.ret hf) fun c4=>?_
  have c1:=of_decide_eq_false c1
  have c2:=of_decide_eq_false c2
  have c3:=of_decide_eq_false c3
  rw[BL (by omega),BL (by omega)]
  exact AOZ _ hf _ fun k1=>AO9 _ hf _ h.2.2.2.2 fun k2=>.ret fun _=>⟨by omega,by omega,by omega,k1,k2⟩
theorem RZ (j:ApiJRD) (hj:UV j) (x:ApiID) (hx:AAw x) (l:List Int) (hl:l.length≤reachBytes∧ ∀a,a∈l→(Lit.int .u8 a).wf=true):Gp 1099511627776 j x l=some true:=by
  unfold Gp
  rw[ASq,Option.bind_some,if_pos rfl]
  dsimp only[AJ]
  obtain⟨b,e,hb⟩:=AUW (N:=1099511627776) j hj
  rw[e,Option.bind_some]
  cases b
  · rfl
  have hk:=hb rfl
  rw[if_pos rfl,AOW x hx,Option.bind_some]
  by_cases hkx:x.text.length+x.host.length≤1000
  rotate_left
  · rw[decide_eq_false hkx];rfl
  rw[decide_eq_true hkx]
  obtain⟨y,e,hy⟩:=AOR (N:=1099511627776) (fun a h=>wf_u8 (hl.2 a h)) (by omega)
  have hs: ∀a,(AJt 1099511627776 j a).length≤1000000:=fun a=>by
    have:=Sy (N:=1099511627776) (a:=a) ((Qf j++[j.subject])++j.aliases) [] (by simp)
    unfold AJt;omega
  rw[if_neg (by decide),e,Option.bind_some,AH8 (by omega) hk,Option.bind_some,AIV (by omega) hk,Option.bind_some,TN _ (hs x),Option.bind_some,if_pos rfl,AH8 (by omega) hk,Option.bind_some,AIV (by omega) hk,Option.bind_some,TN _ (hs y),Option.bind_some]
end
end Go.VM
