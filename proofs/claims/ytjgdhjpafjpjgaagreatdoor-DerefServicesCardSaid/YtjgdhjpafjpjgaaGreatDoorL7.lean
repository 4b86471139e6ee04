import Derived.Test.YtjgdhjpafjpjgaaGreatDoorL6
import Derived.Test.YtjgdhjpafjpjgaaGreatDoorRd
import Derived.KernelRfl
set_option linter.unusedVariables false
set_option linter.unusedSimpArgs false
namespace Go.VM
section
variable{N:Nat}
theorem AZn (U:ApiURI) (h:U.path.length≤100000∧U.query.length≤100000∧U.fragment.length≤100000):Ox (AIg N U).1∧(JX (AIg N U).1).length≤4096:=by
  have z:Ox Lj∧(JX Lj).length≤4096:=⟨⟨⟨Int.le_refl _,by decide⟩,by decide,by decide,by decide,by decide⟩,by decide⟩
  have q1:=AIv U.authority
  have q2:=AAd U.authority
  have n1:=GK (N:=N) U.path inP
  have n2:=GK (N:=N) U.query inQ
  have n3:=GK (N:=N) U.fragment inQ
  have pl:=Uy (N:=N) (CE N U.path inP).1
  unfold AIg
  split
  · exact z
  split
  · exact z
  split
  · exact z
  split
  · exact z
  split
  · exact z
  split
  · exact z
  split
  · exact z
  · rename_i hl
    exact⟨⟨q1,by dsimp only;omega,by dsimp only;omega,by dsimp only;omega,by dsimp only;omega⟩,by dsimp only;omega⟩
theorem AHp (s:List UInt8):Ox (Mm N s).1∧(JX (Mm N s).1).length≤4096:=by
  have z:Ox Lj∧(JX Lj).length≤4096:=⟨⟨⟨Int.le_refl _,by decide⟩,by decide,by decide,by decide,by decide⟩,by decide⟩
  unfold Mm
  split
  · exact z
  rename_i h
  split
  · exact z
  split
  · exact z
  obtain⟨l1,l2,l3,l4,l5⟩:=Lt s
  exact AZn _ ⟨by omega,by omega,by omega⟩
theorem ATM (a:ApiURL) (r:List UInt8):Ox (Xy N a r).1∧(JX (Xy N a r).1).length≤4096:=by
  have z:Ox Lj∧(JX Lj).length≤4096:=⟨⟨⟨Int.le_refl _,by decide⟩,by decide,by decide,by decide,by decide⟩,by decide⟩
  unfold Xy
  split
  · split
    · exact z
    · split
      · exact AHp _
      · exact z
  · exact z
def Kc (l:List ApiField) (k:List UInt8):List UInt8×Bool:=
  match l with
  |[]=>([],false)
  |f::l=>if(f.name==k)=true then(f.value,true)else Kc l k
def Rn (l:List ApiService) (k:List UInt8):List (List UInt8)×Bool:=
  match l with
  |[]=>([],false)
  |f::l=>if(f.iD==k)=true then(f.endpoints,true)else Rn l k
theorem WE (k:List UInt8) (k2:Unit→Option (List UInt8×Bool)) (h:k2 ()=some ([],false)): ∀l:List ApiField,ER N k k2 l=some (Kc l k)
  |[]=>by rw[ER,h];rfl
  | f::l=>by
    rw[ER,Kc,WE k k2 h l]
    split<;>rfl
theorem AJi (l:List ApiField) (k:List UInt8) (h:l.length≤1000000):JC N l k=some (Kc l k):=by
  unfold JC;rw[AB,Be (by omega),WE k _ rfl]
theorem Vp (k:List UInt8) (k2:Unit→Option (List UInt8×Bool)) (h:k2 ()=some ([],false)): ∀l:List ApiField,ES N k k2 l=some (Kc l k)
  |[]=>by rw[ES,h];rfl
  | f::l=>by
    rw[ES,Kc,Vp k k2 h l]
    split<;>rfl
theorem AKK (l:List ApiField) (k:List UInt8) (h:l.length≤1000000):JJ N l k=some (Kc l k):=by
  unfold JJ;rw[AB,Be (by omega),Vp k _ rfl]
theorem WO (k:List UInt8) (k2:Unit→Option (List (List UInt8)×Bool)) (h:k2 ()=some ([],false)): ∀l:List ApiService,CZ N k k2 l=some (Rn l k)
  |[]=>by rw[CZ,h];rfl
  | f::l=>by
    rw[CZ,Rn,WO k k2 h l]
    split<;>rfl
theorem AXG (d:ApiDoc) (k:List UInt8) (h:d.services.length≤1000000):Gj N d k=some (Rn d.services k):=by
  unfold Gj;rw[AB,Be (by omega),WO k _ rfl]
theorem AIx{n:Nat} (s:List UInt8) (hs:s.length≤n) (out:List ApiField) (h: ∀f,f∈out→f.value.length≤n): ∀f,f∈IW N out s→f.value.length≤n:=by
  have c:=FP 61 s
  have d:=Ui (N:=N) (AQ 61 s).2.1
  unfold IW
  split
  · exact h
  split
  · intro f hf
    simp only[List.mem_append,List.mem_cons,List.not_mem_nil,or_false]at hf
    rcases hf with hf|rfl
    · exact h f hf
    · dsimp only;omega
  · exact h
theorem Wq{n:Nat}: ∀(xs:List (List UInt8)) (out:List ApiField),(∀x,x∈xs→x.length≤n)→(∀f,f∈out→f.value.length≤n)→ ∀f,f∈xs.foldl (IW N) out→f.value.length≤n
  |[],out,_,h=>h
  | x::xs,out,hx,h=>by
    rw[List.foldl_cons]
    exact Wq xs _ (fun y hy=>hx y (by simp[hy])) (AIx x (hx x (by simp)) out h)
theorem ATd (q:List UInt8): ∀f,f∈Uf N q→f.value.length≤q.length:=
  Wq _ _ (fun x hx=>by have:=F4 38 q x hx;omega) (by simp)
theorem QS{n:Nat} (k:List UInt8): ∀l:List ApiField,(∀f,f∈l→f.value.length≤n)→(Kc l k).1.length≤n
  |[],_=>by simp[Kc]
  | f::l,h=>by
    rw[Kc]
    split
    · exact h f (by simp)
    · exact QS k l fun g hg=>h g (by simp[hg])
theorem AJ4{α:Type}{f:Int→ApiValue→α×Int}: ∀(l:List ApiValue) (e:Int) (acc:List α),(H9 f l e acc).1.length=acc.length+l.length∧ ∀x,x∈(H9 f l e acc).1→x∈acc∨ ∃e v,v∈l∧x=(f e v).1
  |[],e,acc=>⟨by simp[H9],fun x h=>.inl h⟩
  | v::l,e,acc=>by
    obtain⟨h1,h2⟩:=AJ4 (f:=f) l (f e v).2 (acc++[(f e v).1])
    unfold H9 at *
    rw[List.foldl_cons]
    refine⟨by rw[h1];simp;omega,fun x hx=>?_⟩
    rcases h2 x hx with h|⟨e',v',hv,hx⟩
    · simp only[List.mem_append,List.mem_cons,List.not_mem_nil,or_false]at h
      rcases h with h|h
      · exact .inl h
      · exact .inr ⟨e,v,by simp,h⟩
    · exact .inr ⟨e',v',by simp[hv],hx⟩
theorem AUx{e:Int}{m:ApiValue} (h:okT m): ∀x,x∈(LA e m).1→x.length≤100000:=by
  unfold LA
  split
  · intro x hx;simp only[List.mem_cons,List.not_mem_nil,or_false]at hx;rw[hx];exact h.text
  · intro x hx
    simp only[List.mem_map]at hx
    obtain⟨v,hv,rfl⟩:=hx
    exact(ASg h v hv).text
theorem AM6{d:ApiDID}{e:Int}{v:ApiValue} (h:okT v): ∀x,x∈(IQ N d e v).1.endpoints→x.length≤100000:=by
  unfold IQ
  split
  · exact AUx (KS h kEp)
  · simp
theorem AFj{v:ApiValue} (h:okT v):(Sq N v).1.services.length≤64∧ ∀s,s∈(Sq N v).1.services→ ∀x,x∈s.endpoints→x.length≤100000:=by
  have z:AGr.services.length≤64∧ ∀s,s∈AGr.services→ ∀x,x∈s.endpoints→x.length≤100000:=⟨by decide,by simp[AGr]⟩
  unfold Sq
  split
  · exact z
  split
  · exact z
  dsimp only
  split
  · exact z
  · dsimp only
    generalize (H9 (Ko N _) _ _ _)=M
    have l2:=Oi M.2 (Au v kSe)
    have ok2:=Ud (e:=M.2) (KS h kSe)
    obtain⟨s1,s2⟩:=AJ4 (f:=IQ N (MJ (Au v [105,100]).1.text).1) (Cb M.2 (Au v kSe)).1 (Cb M.2 (Au v kSe)).2 []
    refine⟨by rw[s1];simp;omega,fun s hs x hx=>?_⟩
    rcases s2 s hs with k|⟨e,w,hw,rfl⟩
    · cases k
    · exact AM6 (ok2 w hw) x hx
theorem AJq (k:List UInt8): ∀l:List ApiService,(∀s,s∈l→ ∀x,x∈s.endpoints→x.length≤100000)→ ∀x,x∈(Rn l k).1→x.length≤100000
  |[],_=>by simp[Rn]
  | s::l,h=>by
    rw[Rn]
    split
    · exact h s (by simp)
    · exact AJq k l fun t ht=>h t (by simp[ht])
def Mo:List UInt8:=[115,101,114,118,105,99,101]
def kRR:List UInt8:=[114,101,108,97,116,105,118,101,82,101,102]
def Wv (u:ApiDIDURL) (y:ApiURL):ApiURL:=if(u.hasFrag&&!y.hasFrag)=true then⟨y.host,y.port,y.path,y.query,u.fragment,y.hasQuery,true⟩else y
def WF (u:ApiDIDURL) (y:ApiURL):List UInt8×Int:=if(JX (Wv u y)).length>4096 then([],292)else(JX (Wv u y),0)
def ATF (N:Nat) (u:ApiDIDURL) (ps:List ApiField) (at_:List (List UInt8)):List UInt8×Int:=
  match at_ with
  |[]=>([],292)
  | t::_=>
    if((Mm N t).2 !=0)=true then([],292)
    else if(Kc ps kRR).2=true then(if((Xy N (Mm N t).1 (Kc ps kRR).1).2 !=0)=true then([],292)else WF u (Xy N (Mm N t).1 (Kc ps kRR).1).1)
    else WF u (Mm N t).1
def GG (N:Nat) (u:ApiDIDURL):List ApiField:=if u.hasQuery=true then Uf N u.query else []
def AWl (N:Nat) (v:ApiValue) (u:ApiDIDURL):List UInt8×Int:=
  if((Sq N v).2 !=0)=true then([],(Sq N v).2)
  else if((Kc (GG N u) Mo).2&&(Rn (Sq N v).1.services ((I4 u.dID++[35])++(Kc (GG N u) Mo).1)).2)=true then ATF N u (GG N u) (Rn (Sq N v).1.services ((I4 u.dID++[35])++(Kc (GG N u) Mo).1)).1
  else([],290)
theorem ARU{u:ApiDIDURL}{y:ApiURL} (h:Ox y) (hu:u.fragment.length≤1000000):Ox (Wv u y):=by
  unfold Wv
  split
  · exact⟨h.1,h.2.1,h.2.2.1,h.2.2.2.1,hu⟩
  · exact h
theorem AFE{u:ApiDIDURL}{y:ApiURL} (h:Ox y) (hu:u.fragment.length≤1000000) (hN:20≤N){d1:JD (List UInt8×Bool)}{d2:JD Bool}:
    (AA (fun j34:(List UInt8)×Bool=>
         Option.bind (EM N (ApiURL.mk y.host y.port y.path y.query j34.1 y.hasQuery j34.2)) fun y42=>
         if(decide ((y42.length:Int)>4096))=true then
          some (([]:List UInt8),(292:Int))
         else
          some (y42,0)) (fun k35=>
        AA (fun j38:Bool=>
         if j38=true then
          k35 (u.fragment,true)
         else
          k35 (y.fragment,y.hasFrag)) (fun k39=>
        if u.hasFrag=true then
         k39 (!y.hasFrag)
        else
         k39 false) d2) d1)=some (WF u y):=by
  have b:=ARU (u:=u) h hu
  unfold WF
  dsimp only[AB]
  unfold Wv at *
  cases hf:u.hasFrag<;>cases hy:y.hasFrag
  all_goals simp only[Bool.false_and,Bool.true_and,Bool.not_false,Bool.not_true,Bool.false_eq_true,if_false,if_true,hy,hf]at b⊢
  all_goals (first|rw[show(ApiURL.mk y.host y.port y.path y.query y.fragment y.hasQuery false)=y from by rw[←hy]]|rw[show(ApiURL.mk y.host y.port y.path y.query y.fragment y.hasQuery true)=y from by rw[←hy]]|skip)
  all_goals rw[Qm _ b hN,Option.bind_some]
  all_goals (split<;>(rename_i k;simp only[decide_eq_true_eq]at k;first|rw[if_pos (by omega)]|rw[if_neg (by omega)]))
theorem ACu{u:ApiDIDURL}{y:ApiURL} (h:Ox y) (hu:u.fragment.length≤1000000) (hN:20≤N){d1:JD (List UInt8×Bool)}{d2:JD Bool}:
    (AA (fun j14:(List UInt8)×Bool=>
     Option.bind (Ev N (ApiURL.mk y.host y.port y.path y.query j14.1 y.hasQuery j14.2)) fun y22=>
     if(decide ((y22.length:Int)≤4096))=true then
      some (y22,(0:Int))
     else
      some (([]:List UInt8),292)) (fun k15=>
    AA (fun j18:Bool=>
     if j18=true then
      k15 (u.fragment,true)
     else
      k15 (y.fragment,y.hasFrag)) (fun k19=>
    if u.hasFrag=true then
     k19 (!y.hasFrag)
    else
     k19 false) d2) d1)=some (WF u y):=by
  have b:=ARU (u:=u) h hu
  unfold WF
  dsimp only[AB]
  unfold Wv at *
  cases hf:u.hasFrag<;>cases hy:y.hasFrag
  all_goals simp only[Bool.false_and,Bool.true_and,Bool.not_false,Bool.not_true,Bool.false_eq_true,if_false,if_true,hy,hf]at b⊢
  all_goals (first|rw[show(ApiURL.mk y.host y.port y.path y.query y.fragment y.hasQuery false)=y from by rw[←hy]]|rw[show(ApiURL.mk y.host y.port y.path y.query y.fragment y.hasQuery true)=y from by rw[←hy]]|skip)
  all_goals rw[Q9 _ b hN,Option.bind_some]
  all_goals (split<;>(rename_i k;simp only[decide_eq_true_eq]at k;first|rw[if_pos (by omega)]|rw[if_neg (by omega)]))
theorem AA8 (u:ApiDIDURL) (h:u.query.length≤5000):(GG N u).length≤10000∧ ∀f,f∈GG N u→f.value.length≤5000:=by
  unfold GG
  split
  · have a:=WK (N:=N) (Ar 38 u.query) []
    have b:=I6 38 u.query
    have c:=ATd (N:=N) u.query
    refine⟨by unfold Uf;simp only[List.length_nil]at a;omega,fun f hf=>by have:=c f hf;omega⟩
  · simp
theorem ATT (u:ApiDIDURL) (h:u.query.length≤5000) (hN:1000000≤N):Jg N u=some (GG N u):=by
  unfold Jg GG
  split
  · rw[AW7 _ (by omega) (by omega)];rfl
  · rfl
theorem AC1 (u:ApiDIDURL) (h:u.query.length≤5000) (hN:1000000≤N):H8 N u=some (GG N u):=by
  unfold H8 GG
  split
  · rw[AXL _ (by omega) (by omega)];rfl
  · rfl
theorem AKN (v:ApiValue) (u:ApiDIDURL) (hv:okT v) (hq:u.query.length≤5000) (hf:u.fragment.length≤5000) (hd:u.dID.method.length≤5000∧u.dID.iD.length≤5000) (hN:1000000≤N):F5 N v u=some (AWl N v u):=by
  obtain⟨e1,e2⟩:=AFj (N:=N) hv
  obtain⟨p1,p2⟩:=AA8 (N:=N) u hq
  have l0:(I4 u.dID).length≤20000:=by unfold I4;simp only[List.length_append,List.length_cons,List.length_nil];omega
  have f1:=QS Mo (GG N u) p2
  have f2:=QS kRR (GG N u) p2
  unfold F5 AWl
  rw[AWh v hv (by omega),Option.bind_some]
  split
  · rfl
  rw[ATT u hq hN,Option.bind_some,show([115,101,114,118,105,99,101]:List UInt8)=Mo from rfl,AJi _ _ (by omega),Option.bind_some,AB,Q8 _ ⟨by omega,by omega⟩,Option.bind_some,Be (by simp;omega),Be (by simp;omega),AXG _ _ (by omega),Option.bind_some]
  have em:=AJq ((I4 u.dID++[35])++(Kc (GG N u) Mo).1) _ e2
  generalize Rn (Sq N v).1.services ((I4 u.dID++[35])++(Kc (GG N u) Mo).1)=X at *
  obtain⟨at_,fo⟩:=X
  dsimp only at em⊢
  refine(Bo (a:=!((Kc (GG N u) Mo).2&&fo)) fun k=>by cases (Kc (GG N u) Mo).2<;>rfl).trans ?_
  by_cases hk:((Kc (GG N u) Mo).2&&fo)=true
  rotate_left
  · rw[if_neg hk];simp only[Bool.not_eq_true]at hk;rw[hk];rfl
  rw[if_pos hk,hk,if_neg (by decide)]
  cases at_ with
  |nil=>rfl
  | cons t ts=>
    have ht:=em t (by simp)
    unfold ATF
    obtain⟨wB,wl⟩:=AHp (N:=N) t
    rw[if_neg (by simp;omega),show idx (t::ts) 0=some t from rfl,Option.bind_some,Uz t (by omega) (by omega),Option.bind_some,AB,show([114,101,108,97,116,105,118,101,82,101,102]:List UInt8)=kRR from rfl,AJi _ _ (by omega),Option.bind_some]
    dsimp only
    refine(Bo (a:=(Kc (GG N u) kRR).2&&((Mm N t).2==0)) fun k=>by cases (Kc (GG N u) kRR).2<;>rfl).trans ?_
    obtain⟨rB,rl⟩:=ATM (N:=N) (Mm N t).1 (Kc (GG N u) kRR).1
    by_cases h0:((Mm N t).2 !=0)=true
    · have h0':((Mm N t).2==0)=false:=by simpa using h0
      rw[if_pos h0,h0',Bool.and_false,if_neg (by decide),if_pos h0]
    · have h0':((Mm N t).2==0)=true:=by simpa using h0
      rw[if_neg h0,h0',Bool.and_true]
      split
      · rw[AVa _ _ wB (by omega) (by omega) hN,Option.bind_some]
        split
        · rfl
        · exact AFE rB (by omega) (by omega)
      · exact AFE wB (by omega) (by omega)
theorem APC (s:ApiService) (u:ApiDIDURL) (hs: ∀x,x∈s.endpoints→x.length≤100000) (hq:u.query.length≤5000) (hf:u.fragment.length≤5000) (hN:1000000≤N):He N s u=some (ATF N u (GG N u) s.endpoints):=by
  obtain⟨p1,p2⟩:=AA8 (N:=N) u hq
  have f2:=QS kRR (GG N u) p2
  unfold He
  cases hat:s.endpoints with
  |nil=>rfl
  | cons t ts=>
    have ht:=hs t (by simp[hat])
    unfold ATF
    obtain⟨wB,wl⟩:=AHp (N:=N) t
    rw[if_neg (by simp;omega),show idx (t::ts) 0=some t from rfl,Option.bind_some,Tp t (by omega) (by omega),Option.bind_some]
    dsimp only
    split
    · rfl
    rw[AB,AC1 u hq hN,Option.bind_some,show([114,101,108,97,116,105,118,101,82,101,102]:List UInt8)=kRR from rfl,AKK _ _ (by omega),Option.bind_some]
    obtain⟨rB,rl⟩:=ATM (N:=N) (Mm N t).1 (Kc (GG N u) kRR).1
    split
    · rw[AWD _ _ wB (by omega) (by omega) hN,Option.bind_some]
      split
      · rfl
      · exact ACu rB (by omega) (by omega)
    · exact ACu wB (by omega) (by omega)
theorem AGI (u:ApiDIDURL) (hq:u.query.length≤5000) (hf:u.fragment.length≤5000) (hd:u.dID.method.length≤5000∧u.dID.iD.length≤5000) (hN:1000000≤N) (y5:List UInt8×Bool) (hy:y5.1.length≤5000): ∀l:List ApiService,(∀s,s∈l→ ∀x,x∈s.endpoints→x.length≤100000)→
    Dc N u y5 (fun _=>some ([],290)) l=some (if(Rn l ((I4 u.dID++[35])++y5.1)).2=true then ATF N u (GG N u) (Rn l ((I4 u.dID++[35])++y5.1)).1 else([],290))
  |[],_=>by rw[Dc];rfl
  | s::l,h=>by
    have l0:(I4 u.dID).length≤20000:=by unfold I4;simp only[List.length_append,List.length_cons,List.length_nil];omega
    rw[Dc,Ql _ ⟨by omega,by omega⟩,Option.bind_some,Be (by simp;omega),Be (by simp;omega),Rn]
    split
    · rw[APC s u (h s (by simp)) hq hf hN];rfl
    · exact AGI u hq hf hd hN y5 hy l fun t ht=>h t (by simp[ht])
theorem AKE (v:ApiValue) (u:ApiDIDURL) (hv:okT v) (hq:u.query.length≤5000) (hf:u.fragment.length≤5000) (hd:u.dID.method.length≤5000∧u.dID.iD.length≤5000) (hN:1000000≤N):Gq N v u=some (AWl N v u):=by
  obtain⟨e1,e2⟩:=AFj (N:=N) hv
  obtain⟨p1,p2⟩:=AA8 (N:=N) u hq
  have f1:=QS Mo (GG N u) p2
  unfold Gq AWl
  rw[AU2 v hv (by omega),Option.bind_some]
  split
  · rfl
  rw[AC1 u hq hN,Option.bind_some,show([115,101,114,118,105,99,101]:List UInt8)=Mo from rfl,AKK _ _ (by omega),Option.bind_some]
  cases (Kc (GG N u) Mo).2
  · rfl
  · rw[if_pos rfl,AB,Be (by omega),AGI u hq hf hd hN _ f1 _ e2]
    rfl
end
end Go.VM
namespace Go.VM
theorem PV (s:List UInt8) (h0:s.length≤reachBytes) (u:ApiDIDURL) (hu:SY u) (q:List UInt8) (hq:q.length≤reachBytes):FI 1099511627776 s u q=some true:=by
  obtain⟨⟨u1,u2⟩,u3,u4,u5,_,_⟩:=hu
  have hr:reachBytes≤2^59:=by decide
  unfold FI
  rw[AYZ,Option.bind_some,if_pos rfl]
  dsimp only[AB]
  have z: ∀ {a b:Option Bool},(if(decide ((s.length:Int)>1500))=true then(if true=true then some true else a)else b)=some true↔((s.length:Int)>1500∨b=some true):=by
    intro a b
    by_cases h:(s.length:Int)>1500
    · rw[if_pos (decide_eq_true h)];simp[h]
    · rw[if_neg (by simpa using h)];simp[h]
  rw[z]
  by_cases hl:(s.length:Int)>1500
  · exact .inl hl
  refine .inr ?_
  rw[AR (n:=(q.length:Int)+(u.query.length:Int)) (by omega),AR (n:=(q.length:Int)+(u.query.length:Int)+(u.path.length:Int)) (by omega),AR (n:=(q.length:Int)+(u.query.length:Int)+(u.path.length:Int)+(u.fragment.length:Int)) (by omega),AR (n:=(q.length:Int)+(u.query.length:Int)+(u.path.length:Int)+(u.fragment.length:Int)+(u.dID.iD.length:Int)) (by omega),AR (n:=(q.length:Int)+(u.query.length:Int)+(u.path.length:Int)+(u.fragment.length:Int)+(u.dID.iD.length:Int)+(u.dID.method.length:Int)) (by omega)]
  by_cases hs:(q.length:Int)+(u.query.length:Int)+(u.path.length:Int)+(u.fragment.length:Int)+(u.dID.iD.length:Int)+(u.dID.method.length:Int)>1000
  · rw[if_pos (decide_eq_true hs)]
  rw[if_neg (by simpa using hs)]
  obtain⟨v,e1,k1,_⟩:=(AFG (N:=1099511627776) (l:=s) (by omega) (by omega))
  rw[e1,Option.bind_some]
  obtain⟨w,e2,k2,_⟩:=(AFG (N:=1099511627776) (l:=[123,34,105,100,34,58,34,100,105,100,58,119,101,98,58,97,46,101,120,97,109,112,108,101,34,44,34,115,101,114,118,105,99,101,34,58,91,123,34,105,100,34,58,34,35,102,105,108,101,115,34,44,34,116,121,112,101,34,58,34,88,34,44,34,115,101,114,118,105,99,101,69,110,100,112,111,105,110,116,34,58,34,104,116,116,112,115,58,47,47,97,46,101,120,97,109,112,108,101,47,102,47,34,125,93,125]) (by decide) (by decide))
  rw[e2,Option.bind_some,AKN v.1 u k1 (by omega) (by omega) ⟨by omega,by omega⟩ (by decide),Option.bind_some,AKE v.1 u k1 (by omega) (by omega) ⟨by omega,by omega⟩ (by decide),Option.bind_some,AKN w.1 _ k2 (by dsimp only;omega) (by dsimp only;omega) ⟨by dsimp only;decide,by dsimp only;decide⟩ (by decide),Option.bind_some,AKE w.1 _ k2 (by dsimp only;omega) (by dsimp only;omega) ⟨by dsimp only;decide,by dsimp only;decide⟩ (by decide),Option.bind_some]
  simp
end Go.VM
