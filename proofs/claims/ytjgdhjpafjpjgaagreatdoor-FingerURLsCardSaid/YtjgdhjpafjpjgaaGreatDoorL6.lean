import Derived.Test.YtjgdhjpafjpjgaaGreatDoorL5
import Derived.Test.YtjgdhjpafjpjgaaGreatDoorRd
import Derived.KernelRfl
set_option linter.unusedVariables false
set_option linter.unusedSimpArgs false
namespace Go.VM
section
variable{N:Nat}
def id0:ApiID:=⟨0,[],[],0⟩
def SE (N:Nat) (s:List UInt8):ApiID×Int:=if((M5 N s).2 !=0)=true then(id0,(M5 N s).2)else(⟨1,VE (M5 N s).1,(M5 N s).1.host,0⟩,0)
def TJ (N:Nat) (s:List UInt8):ApiID×Int:=if((Mg N s).2 !=0)=true then(id0,(Mg N s).2)else(⟨2,VN (Mg N s).1,(Mg N s).1.host,0⟩,0)
def U1 (N:Nat) (a b:List UInt8):ApiID×Int:=if((OJ N a b).2 !=0)=true then(id0,(OJ N a b).2)else(⟨3,Js (OJ N a b).1,(OJ N a b).1.host,(OJ N a b).1.port⟩,0)
def VA (N:Nat) (s:List UInt8):ApiID×Int:=
  if((H8 s).2 !=0)=true then(id0,(H8 s).2)
  else if((OC N (H8 s).1).2 !=0)=true then(id0,(OC N (H8 s).1).2)
  else(⟨4,Gj (OC N (H8 s).1).1,(Bt N (OC N (H8 s).1).1).1.host,(Bt N (OC N (H8 s).1).1).1.port⟩,0)
def Jw (s:List UInt8):List UInt8:=(AY 58 s).1.map Dc
def idS (N:Nat) (s:List UInt8):ApiID×Int:=
  if s.length>4096 then(id0,5)
  else if s.contains 58=false then(id0,60)
  else if(Jw s==[97,99,99,116])=true then SE N s
  else if(Jw s==[109,97,105,108,116,111])=true then TJ N s
  else if(Jw s==[104,116,116,112,115])=true then U1 N (AY 58 s).1 (AY 58 s).2.1
  else if(Jw s==[100,105,100])=true then VA N s
  else(id0,60)
theorem APR (s:List UInt8) (hb:s.length≤1000000) (hN:20000≤N):Ew N s=some (SE N s):=by
  obtain⟨l1,l2⟩:=QR (N:=N) s
  unfold Ew SE
  rw[AOP s hb hN,Option.bind_some,AJd _ ⟨by omega,by omega⟩,Option.bind_some]
  split<;>rfl
theorem AO2 (s:List UInt8) (hb:s.length≤1000000) (hN:20000≤N):Eu N s=some (TJ N s):=by
  obtain⟨l1,l2⟩:=Qf (N:=N) s
  unfold Eu TJ
  rw[AOl s hb hN,Option.bind_some,AJ0 _ ⟨by omega,by omega⟩,Option.bind_some]
  split<;>rfl
theorem AGS (a b:List UInt8):Sv (OJ N a b).1∧(Js (OJ N a b).1).length≤20000:=by
  have hf: ∀u:ApiURL,FE u.port→u.host.length≤300→u.path.length≤4100→u.query.length≤4100→u.fragment.length≤4100→Sv u∧(Js u).length≤20000:=fun u h1 h2 h3 h4 h5=>by
    refine⟨⟨h1,by omega,by omega,by omega,by omega⟩,?_⟩
    have hh:=Pn u.host u.port
    have ht:=Sk u
    unfold Js
    split<;>(simp only[List.length_append,List.length_cons,List.length_nil];omega)
  have hz:Sv JB∧(Js JB).length≤20000:=hf _ (by unfold FE JB;simp) (by simp[JB]) (by simp[JB]) (by simp[JB]) (by simp[JB])
  unfold OJ
  split
  · exact hz
  rename_i hl
  obtain⟨l1,l2,l3,l4⟩:=Xn a b
  simp only[List.length_append,List.length_cons]at hl
  generalize La a b=U at *
  have q1:=YI U.authority
  have q2:=Ro U.authority
  have n1:=Gp (N:=N) U.path inP
  have n2:=Gp (N:=N) U.query inQ
  have n3:=Gp (N:=N) U.fragment inQ
  have pl:=R5 (N:=N) (CP N U.path inP).1
  unfold Yb
  repeat' split
  all_goals first|exact hz|exact hf _ q1 (by dsimp only;omega) (by dsimp only;omega) (by dsimp only;omega) (by dsimp only;omega)
theorem ASb{a b:List UInt8} (h:GX a) (hb:(a++58::b).length≤1000000) (hN:20000≤N):FN N (a++58::b)=some (U1 N a b):=by
  unfold FN U1
  rw[AHX h hb hN,Option.bind_some,M6 _ (AGS a b).1 (by omega),Option.bind_some]
  split<;>rfl
theorem ARu{a b:List UInt8} (h:GX a) (hb:(a++58::b).length≤1000000) (hN:20000≤N):Lg N (a++58::b)=some (U1 N a b):=by
  unfold Lg U1
  rw[AHw h hb hN,Option.bind_some,NM _ (AGS a b).1 (by omega),Option.bind_some]
  split<;>rfl
theorem AKu{h:List UInt8}{p:Int}{path:List UInt8}{L:List (List UInt8)}:(M8 N h p path L).1.method.length≤4096∧(M8 N h p path L).1.iD.length≤4096:=by
  have hf: ∀I:List UInt8,¬(Gj ⟨Fy,I⟩).length>4096→(⟨Fy,I⟩:ApiDID).method.length≤4096∧(⟨Fy,I⟩:ApiDID).iD.length≤4096:=fun I hI=>by
    have:=(PG I).2.2
    exact⟨by simp[Fy],by dsimp only;omega⟩
  unfold M8
  repeat' split
  all_goals first|exact hf _ (by assumption)|simp[Hm]
theorem SN (d:ApiDID):(OC N d).1.method.length≤4096∧(OC N d).1.iD.length≤4096:=by
  unfold OC Pq
  split
  · simp[Hm]
  split
  · exact AKu
  · simp[Hm]
theorem ASi (s:List UInt8) (hb:s.length≤1000000) (hN:20000≤N):FK N s=some (VA N s):=by
  obtain⟨l1,l2⟩:=ACs s
  obtain⟨c1,c2⟩:=SN (N:=N) (H8 s).1
  unfold FK VA
  rw[AHb s hb hN,Option.bind_some,AOv _ l1 (by omega) hN,Option.bind_some,Uv _ c1 (by omega) hN,Option.bind_some,Sr _ ⟨by omega,by omega⟩,Option.bind_some]
  split
  · rfl
  split
  · rfl
  rename_i h
  rw[AIu hN (by simpa using h)]
  rfl
theorem AR7 (s:List UInt8) (hb:s.length≤1000000) (hN:20000≤N):F7 N s=some (VA N s):=by
  obtain⟨l1,l2⟩:=ACs s
  obtain⟨c1,c2⟩:=SN (N:=N) (H8 s).1
  unfold F7 VA
  rw[AHj s hb hN,Option.bind_some,AOo _ l1 (by omega) hN,Option.bind_some,AKD _ c1 (by omega) hN,Option.bind_some,Sw _ ⟨by omega,by omega⟩,Option.bind_some]
  split
  · rfl
  split
  · rfl
  rfl
theorem AEz{s:List UInt8} (hc:s.contains 58=true):s=(AY 58 s).1++58::(AY 58 s).2.1:=by
  have hlt:=Ih hc
  rw[ED hc]
  have e:=List.takeWhile_append_dropWhile (p:=(· !=(58:UInt8))) (l:=s)
  have hd:s.dropWhile (· !=(58:UInt8))=58::(s.dropWhile (· !=(58:UInt8))).drop 1:=by
    cases hq:s.dropWhile (· !=(58:UInt8))with
    |nil=>rw[hq,List.append_nil]at e;rw[e]at hlt;omega
    | cons y ys=>
      have:=List.head?_dropWhile_not (fun z=>z !=(58:UInt8)) s
      rw[hq]at this
      simp at this
      simp[this]
  conv=>lhs;rw[←e,hd]
theorem ATI (s:List UInt8) (hb:s.length≤1000000) (hN:20000≤N):Jj N s=some (idS N s):=by
  have hl:=Es 58 s
  unfold Jj idS
  by_cases h1:s.length>4096
  · rw[if_pos (by simp;omega),if_pos h1];rfl
  rw[if_neg (by simp;omega),if_neg h1,MI 58 s (by omega),Option.bind_some]
  unfold LD
  rw[Option.bind_some,lower_eq _ (by omega),Option.bind_some,N7]
  dsimp only[AL]
  change (if(Jw s==[97,99,99,116])=true then _ else(if(Jw s==[109,97,105,108,116,111])=true then _ else(if(Jw s==[104,116,116,112,115])=true then _ else(if(Jw s==[100,105,100])=true then _ else _))))=_
  cases hc:s.contains 58
  · cases (Jw s==[97,99,99,116])<;>cases (Jw s==[109,97,105,108,116,111])<;>cases (Jw s==[104,116,116,112,115])<;>cases (Jw s==[100,105,100])<;>rfl
  rw[APR s hb hN,AO2 s hb hN,ASi s hb hN]
  by_cases k1:(Jw s==[97,99,99,116])=true
  · rw[k1];rfl
  rw[Bool.eq_false_iff.2 k1]
  by_cases k2:(Jw s==[109,97,105,108,116,111])=true
  · rw[k2];rfl
  rw[Bool.eq_false_iff.2 k2]
  by_cases k3:(Jw s==[104,116,116,112,115])=true
  · have hs:=AEz hc
    have hA:GX (AY 58 s).1:=by unfold GX;simpa[Jw]using k3
    have:=ASb (N:=N) (b:=(AY 58 s).2.1) hA (by rw[←hs];exact hb) hN
    rw[←hs]at this
    rw[k3,this];rfl
  rw[Bool.eq_false_iff.2 k3]
  by_cases k4:(Jw s==[100,105,100])=true
  · rw[k4];rfl
  rw[Bool.eq_false_iff.2 k4]
  rfl
theorem AOq (s:List UInt8) (hb:s.length≤1000000) (hN:20000≤N):IZ N s=some (idS N s):=by
  have hl:=Es 58 s
  obtain⟨a1,a2⟩:=QR (N:=N) s
  obtain⟨m1,m2⟩:=Qf (N:=N) s
  unfold IZ idS
  by_cases h1:s.length>4096
  · rw[if_pos (by simp;omega),if_pos h1];rfl
  rw[if_neg (by simp;omega),if_neg h1,APK 58 s hb,Option.bind_some,Pw]
  cases hc:s.contains 58
  · rfl
  rw[if_neg (by decide),if_neg (by decide),(PV hc hb).1,Option.bind_some,Nr _ (by omega),Option.bind_some]
  change (if(Jw s==[97,99,99,116])=true then _ else(if(Jw s==[109,97,105,108,116,111])=true then _ else(if(Jw s==[104,116,116,112,115])=true then _ else(if(Jw s==[100,105,100])=true then _ else _))))=_
  rw[AMJ s hb hN,AL7 s hb hN,AR7 s hb hN]
  simp only[Option.bind_some]
  rw[AJ3 _ ⟨by omega,by omega⟩,AIk _ ⟨by omega,by omega⟩]
  simp only[Option.bind_some]
  by_cases k1:(Jw s==[97,99,99,116])=true
  · rw[if_pos k1,if_pos k1];unfold SE;split<;>rfl
  rw[if_neg k1,if_neg k1]
  by_cases k2:(Jw s==[109,97,105,108,116,111])=true
  · rw[if_pos k2,if_pos k2];unfold TJ;split<;>rfl
  rw[if_neg k2,if_neg k2]
  by_cases k3:(Jw s==[104,116,116,112,115])=true
  · have hs:=AEz hc
    have hA:GX (AY 58 s).1:=by unfold GX;simpa[Jw]using k3
    have:=ARu (N:=N) (b:=(AY 58 s).2.1) hA (by rw[←hs];exact hb) hN
    rw[←hs]at this
    rw[if_pos k3,if_pos k3,this];rfl
  rw[if_neg k3,if_neg k3]
  split<;>rfl
theorem ARp (s:List UInt8):FE (idS N s).1.port∧(idS N s).1.host.length≤1000000∧(idS N s).1.text.length≤100000:=by
  obtain⟨a1,a2⟩:=QR (N:=N) s
  obtain⟨m1,m2⟩:=Qf (N:=N) s
  have hz: ∀e:Int,FE (id0,e).1.port∧(id0,e).1.host.length≤1000000∧(id0,e).1.text.length≤100000:=fun e=>⟨by unfold FE id0;simp,by simp[id0],by simp[id0]⟩
  have h0:FE 0:=by unfold FE;omega
  unfold idS
  split
  · exact hz _
  split
  · exact hz _
  split
  · unfold SE
    split
    · exact hz _
    · refine⟨h0,by dsimp only;omega,?_⟩
      unfold VE
      simp only[List.length_append,List.length_cons,List.length_nil];omega
  split
  · unfold TJ
    split
    · exact hz _
    · refine⟨h0,by dsimp only;omega,?_⟩
      have:=KH Mk (Mg N s).1.local_
      unfold VN
      simp only[List.length_append,List.length_cons,List.length_nil];omega
  split
  · unfold U1
    split
    · exact hz _
    · obtain⟨u1,u2⟩:=AGS (N:=N) (AY 58 s).1 (AY 58 s).2.1
      exact⟨u1.1,u1.2.1,by dsimp only;omega⟩
  split
  · unfold VA
    obtain⟨c1,c2⟩:=SN (N:=N) (H8 s).1
    split
    · exact hz _
    split
    · exact hz _
    · obtain⟨p1,p2⟩:=Ld (N:=N) (OC N (H8 s).1).1
      refine⟨p1,by dsimp only;omega,?_⟩
      unfold Gj
      simp only[List.length_append,List.length_cons,List.length_nil];omega
  · exact hz _
end
end Go.VM
namespace Go.VM
theorem ATC:ML 1099511627776=some true:=by kernel_rfl
section
variable{N:Nat}
def eqI (a b:ApiID):Bool:=a.kind==b.kind&&(a.text==b.text&&(a.host==b.host&&a.port==b.port))
theorem ATL{a b:ApiID} (h:eqI a b=true):a=b:=by
  unfold eqI at h
  simp only[Bool.and_eq_true,beq_iff_eq]at h
  cases a;cases b;simp_all
def QK (N:Nat) (x:ApiID):Bool:=if((idS N x.text).2==0)=true then eqI (idS N x.text).1 x else false
theorem APV (x:ApiID) (hb:x.text.length≤1000000) (hN:20000≤N):Ja N x=some (QK N x):=by
  unfold Ja QK
  rw[ATI _ hb hN,Option.bind_some]
  split<;>rfl
theorem AO1 (x:ApiID) (hb:x.text.length≤1000000) (hN:20000≤N):Jv N x=some (QK N x):=by
  unfold Jv QK
  rw[AOq _ hb hN,Option.bind_some]
  split<;>rfl
def atS (N:Nat) (x:ApiID) (p:List UInt8):ApiURL×Int:=if QK N x=true then(⟨x.host,x.port,p,[],[],false,false⟩,0)else(JB,8)
theorem AF4 (x:ApiID) (p:List UInt8) (hb:x.text.length≤1000000) (hN:20000≤N):II N x p=some (atS N x p):=by
  unfold II atS
  rw[APV x hb hN,Option.bind_some]
  split<;>rfl
theorem AFi (x:ApiID) (p:List UInt8) (hb:x.text.length≤1000000) (hN:20000≤N):Je N x p=some (atS N x p):=by
  unfold Je atS
  rw[AO1 x hb hN,Option.bind_some]
  split<;>rfl
theorem AUc (x:ApiID) (p:List UInt8):FE (atS N x p).1.port∧(atS N x p).1.host.length≤1000000∧((atS N x p).1.path=p∨(atS N x p).1.path=[])∧(atS N x p).1.fragment=[]:=by
  unfold atS
  split
  · rename_i h
    unfold QK at h
    split at h
    · have e:=ATL h
      obtain⟨b1,b2,_⟩:=ARp (N:=N) x.text
      rw[e]at b1 b2
      exact⟨b1,b2,.inl rfl,rfl⟩
    · cases h
  · exact⟨by unfold FE JB;simp,by simp[JB],.inr rfl,rfl⟩
theorem ARa (x:ApiID) (hb:x.text.length≤1000000) (hN:20000≤N): ∃u,F3 N x=some u∧GY N x=some u:=by
  refine⟨atS N x [47,46,119,101,108,108,45,107,110,111,119,110,47,104,111,115,116,45,109,101,116,97,46,106,115,111,110],?_,?_⟩
  · unfold F3;rw[AF4 x _ hb hN,Option.bind_some]
  · unfold GY;rw[AFi x _ hb hN,Option.bind_some]
theorem AQS (x:ApiID) (hb:x.text.length≤1000000) (hN:20000≤N): ∃u,Jm N x=some u∧Kv N x=some u:=by
  refine⟨atS N x [47],?_,?_⟩
  · unfold Jm;rw[AF4 x _ hb hN,Option.bind_some]
  · unfold Kv;rw[AFi x _ hb hN,Option.bind_some]
def wfP:List UInt8:=[47,46,119,101,108,108,45,107,110,111,119,110,47,119,101,98,102,105,110,103,101,114]
def qU (N:Nat) (x:ApiID):ApiURL:=ApiURL.mk (atS N x wfP).1.host (atS N x wfP).1.port (atS N x wfP).1.path (([114,101,115,111,117,114,99,101,61]:List UInt8)++x.text.flatMap (Gm [])) (atS N x wfP).1.fragment true (atS N x wfP).1.hasFrag
def qS (N:Nat) (x:ApiID):ApiURL×Int:=
  if((atS N x wfP).2 !=0)=true then(JB,(atS N x wfP).2)
  else if(decide (((Js (qU N x)).length:Int)>4096))=true then(JB,5)else(qU N x,0)
theorem AOQ (x:ApiID) (hb:x.text.length≤100000) (hN:20000≤N): ∃u,Fp N x=some u∧Jr N x=some u:=by
  have he:=KH [] x.text
  obtain⟨b1,b2,b3,b4⟩:=AUc (N:=N) x wfP
  have hU:Sv (qU N x):=by
    refine⟨b1,b2,?_,?_,?_⟩
    · change (atS N x wfP).1.path.length≤_
      rcases b3 with h|h<;>rw[h]<;>simp[wfP]
    · simp only[qU,List.length_append,List.length_cons,List.length_nil];omega
    · change (atS N x wfP).1.fragment.length≤_
      rw[b4];simp
  refine⟨qS N x,?_,?_⟩
  · unfold Fp qS
    change Option.bind (II N x wfP) _=_
    rw[AF4 x _ (by omega) hN,Option.bind_some,MQ _ _ (by omega),Option.bind_some,BP (by simp only[List.length_cons,List.length_nil];omega)]
    change (if((atS N x wfP).2 !=0)=true then _ else Option.bind (Cg N (qU N x)) _)=_
    rw[M6 _ hU (by omega),Option.bind_some]
    split
    · rfl
    · split<;>rfl
  · unfold Jr qS
    change Option.bind (Je N x wfP) _=_
    rw[AFi x _ (by omega) hN,Option.bind_some,Oi _ _ (by simp) (by omega),Option.bind_some,BP (by simp only[List.length_cons,List.length_nil];omega)]
    change (if((atS N x wfP).2 !=0)=true then _ else Option.bind (CZ N (qU N x)) _)=_
    rw[NM _ hU (by omega),Option.bind_some]
    split
    · rfl
    · split<;>rfl
theorem U6 (hN:20000≤N) (k:Unit→Option Bool): ∀xs:List ApiID,(∀x,x∈xs→x.text.length≤100000)→BG N k xs=k ()
  |[],_=>by rw[BG]
  | x::xs,h=>by
    have hx:=h x (by simp)
    obtain⟨u,p1,r1⟩:=AOQ x hx hN
    obtain⟨v,p2,r2⟩:=ARa x (by omega) hN
    obtain⟨w,p3,r3⟩:=AQS x (by omega) hN
    rw[BG,p1,Option.bind_some,r1,Option.bind_some,p2,Option.bind_some,r2,Option.bind_some,p3,Option.bind_some,r3,Option.bind_some]
    dsimp only[AL]
    change (if eqU u.1 u.1=true then(if(u.2 !=u.2)=true then _ else(if eqU v.1 v.1=true then(if(v.2 !=v.2)=true then _ else(if eqU w.1 w.1=true then(if(w.2 !=w.2)=true then _ else _)else _))else _))else _)=_
    rw[if_pos (SG _),if_neg (by simp),if_pos (SG _),if_neg (by simp),if_pos (SG _),if_neg (by simp)]
    exact U6 hN k xs fun y hy=>h y (by simp[hy])
def Ng (d:MadeDice):Prop:= ∀a,a∈d.l→0≤a∧a≤255
theorem AHc{d:MadeDice} (hd:Ng d) (hl:d.l.length≤1000){n:Nat} (h1:1≤n) (h2:n≤1000):Ok (FJ N d (n:Int)) fun r=>(0≤r.1∧r.1<n)∧Ng r.2∧r.2.l.length≤1000:=by
  unfold FJ
  have hz:Ok (some ((0:Int),d)) fun r=>(0≤r.1∧r.1<n)∧Ng r.2∧r.2.l.length≤1000:=.ret ⟨⟨Int.le_refl _,by dsimp only;omega⟩,hd,hl⟩
  dsimp only[AL]
  cases hq:d.l with
  |nil=>exact hz
  | cons a t=>
    rw[hq]at hl
    simp only[List.length_cons]at hl
    obtain⟨a1,a2⟩:=hd a (by rw[hq];simp)
    rw[if_neg (by simp;omega)]
    refine Ok.ite (fun _=>hz) fun _=>?_
    have e1:sub (a::t) 1 ((a::t).length:Int)=some t:=by
      rw[show(1:Int)=((1:Nat):Int)from rfl,CR _ 1 _ (by simp) (Nat.le_refl _)];simp
    rw[show idx (a::t) 0=some a from rfl,Option.bind_some,e1,Option.bind_some,BF (by omega)]
    refine .grd (by omega) (.ret ⟨⟨?_,?_⟩,fun b hb=>hd b (by rw[hq];simp[hb]),by dsimp only;omega⟩)
    · exact Int.tmod_nonneg _ a1
    · exact Int.tmod_lt_of_pos _ (by omega)
theorem Mw{d:MadeDice} (hd:Ng d) (hl:d.l.length≤1000){l:List (List UInt8)} (h1:1≤l.length) (h2:l.length≤1000) (h3: ∀s,s∈l→s.length≤30):Ok (Ci N d l) fun r=>r.1.length≤30∧Ng r.2∧r.2.l.length≤1000:=by
  unfold Ci
  refine .bind (AHc hd hl h1 h2) fun y ⟨⟨y1,y2⟩,y3,y4⟩=>?_
  refine .bind (Ok.idx y1 y2) fun x hx=>.ret ⟨h3 x (List.mem_of_getElem? hx),y3,y4⟩
theorem okS{α:Type}{n:Nat}{x:Option α}{P:α→Prop} (h:n≤1000000) (hx:Ok x P):Ok (grd (AX n) x) P:=by rw[BP (by omega)];exact hx
theorem ARN{d:MadeDice} (hd:Ng d) (hl:d.l.length≤1000):Ok (L9 N d) fun r=>r.1.length≤1000:=by
  unfold L9 N9
  refine .bind (Q:=fun r=>r.1.length≤30∧Ng r.2∧r.2.l.length≤1000) ?_ fun y ⟨y1,y2,y3⟩=>?_
  · refine .letL (.bind (Mw hd hl (by decide) (by decide) (by decide)) fun r hr=>.ret hr)
  refine .bind (AHc y2 y3 (n:=6) (by decide) (by decide)) fun z ⟨_,z1,z2⟩=>?_
  refine .meet (fun _=>True) (fun j _=>?_) fun k' hk=>.ite (fun _=>hk _ trivial) fun _=>hk _ trivial
  refine .ite (fun _=>?_) fun _=>.ite (fun _=>?_) fun _=>.ite (fun _=>?_) fun _=>?_
  · refine .letL (.bind (Mw z1 z2 (by decide) (by decide) (by decide)) fun a ⟨a1,a2,a3⟩=>?_)
    refine .letL (.bind (Mw a2 a3 (by decide) (by decide) (by decide)) fun b ⟨b1,b2,b3⟩=>?_)
    refine okS (by omega) (okS (by simp;omega) ?_)
    refine .letL (.bind (Mw b2 b3 (by decide) (by decide) (by decide)) fun c ⟨c1,c2,c3⟩=>?_)
    exact okS (by simp;omega) (.ret (by simp;omega))
  · refine .letL (.bind (Mw z1 z2 (by decide) (by decide) (by decide)) fun a ⟨a1,a2,a3⟩=>?_)
    refine okS (by simp;omega) (okS (by simp;omega) ?_)
    refine .letL (.bind (Mw a2 a3 (by decide) (by decide) (by decide)) fun c ⟨c1,c2,c3⟩=>?_)
    exact okS (by simp;omega) (.ret (by simp;omega))
  · refine okS (by simp;omega) ?_
    refine .letL (.bind (Mw z1 z2 (by decide) (by decide) (by decide)) fun a ⟨a1,a2,a3⟩=>?_)
    exact okS (by simp;omega) (.ret (by simp;omega))
  · refine .meet (fun j=>j.length≤30) (fun j hj=>?_) fun k' hk=>.ite (fun _=>hk _ (by decide)) fun _=>hk _ y1
    refine okS (by simp;omega) ?_
    refine .letL (.bind (Mw z1 z2 (by decide) (by decide) (by decide)) fun a ⟨a1,a2,a3⟩=>?_)
    exact okS (by simp;omega) (.ret (by simp;omega))
theorem AOY{l:List Int} (h: ∀a,a∈l→0≤a∧a≤255) (hN:20000≤N):Ok (FO N l) fun x=>x.text.length≤100000:=by
  unfold FO
  refine .bind (Q:=fun d=>Ng d∧d.l.length≤1000) ?_ fun d ⟨d1,d2⟩=>.bind (ARN d1 d2) fun t ht=>?_
  · unfold P6
    have hm: ∃n:Nat,(if 200<(l.length:Int)then 200 else(l.length:Int))=(n:Int)∧n≤l.length∧n≤200:=by
      by_cases h2:200<(l.length:Int)
      · exact⟨200,by rw[if_pos h2];rfl,by omega,Nat.le_refl _⟩
      · exact⟨l.length,by rw[if_neg h2],Nat.le_refl _,by omega⟩
    obtain⟨n,e,n1,n2⟩:=hm
    rw[e,show(0:Int)=((0:Nat):Int)from rfl,CR l 0 n (Nat.zero_le _) n1,Option.bind_some]
    refine .ret ⟨fun a ha=>h a ?_,?_⟩
    · simp only[List.drop_zero,Nat.sub_zero]at ha
      exact List.mem_of_mem_take ha
    · simp;omega
  · rw[AOq _ (by omega) hN,Option.bind_some]
    exact .ret (ARp _).2.2
theorem AMk (x:ApiID) (h:XZ x):PZ N x=some (decide (x.text.length+x.host.length≤1000)):=by
  obtain⟨_,h2,h3,_⟩:=h
  have hr:reachBytes=140737488351232:=rfl
  unfold PZ
  rw[BF (by omega)]
  congr 1
  rw[decide_eq_decide]
  omega
theorem RU (x:ApiID) (hx:XZ x) (l:List Int) (hl:l.length≤reachBytes∧ ∀a,a∈l→(Lit.int .u8 a).wf=true):Gy 1099511627776 x l=some true:=by
  unfold Gy
  rw[ATC,Option.bind_some,if_pos rfl,AMk x hx,Option.bind_some]
  by_cases hk:x.text.length+x.host.length≤1000
  · rw[if_pos (by simpa using hk)]
    dsimp only[AL]
    obtain⟨y,e,hy⟩:=AOY (N:=1099511627776) (fun a h=>wf_u8 (hl.2 a h)) (by omega)
    rw[e,Option.bind_some]
    change grd (AX 2) (BG 1099511627776 _ [x,y])=_
    rw[BP (by omega),U6 (by omega)]
    intro z hz
    rcases List.mem_cons.1 hz with rfl|hz
    · omega
    · rcases List.mem_singleton.1 hz with rfl;exact hy
  · rw[if_neg (by simpa using hk)]
end
end Go.VM
