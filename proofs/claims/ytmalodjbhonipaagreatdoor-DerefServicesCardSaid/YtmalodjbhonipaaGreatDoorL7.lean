import Derived.Test.YtmalodjbhonipaaGreatDoorL6
import Derived.Test.YtmalodjbhonipaaGreatDoorRd
import Derived.KernelRfl
set_option linter.unusedVariables false
set_option linter.unusedSimpArgs false
namespace Go.VM
section
variable{N:Nat}
theorem AWM (U:ApiURI) (h:U.path.length≤100000∧U.query.length≤100000∧U.fragment.length≤100000):OO (AFI N U).1∧(Jj (AFI N U).1).length≤4096:=by
 have z:OO LK∧(Jj LK).length≤4096:=⟨⟨⟨be _,eV⟩,eV,eV,eV,eV⟩,eV⟩;have q1:=AFA U.authority;have q2:=YG U.authority;have n1:=F7 (N:=N) U.path inP;have n2:=F7 (N:=N) U.query inQ;have n3:=F7 (N:=N) U.fragment inQ;have pl:=UA (N:=N) (Bj N U.path inP).1;unfold AFI;split;·exact z
 split;·exact z
 split;·exact z
 split;·exact z
 split;·exact z
 split;·exact z
 split;·exact z
 ·rename_i hl;exact⟨⟨q1,by dsimp only;omega,by dsimp only;omega,by dsimp only;omega,by dsimp only;omega⟩,by dsimp only;omega⟩
theorem AGu (s:List UInt8):OO (MR N s).1∧(Jj (MR N s).1).length≤4096:=by
 have z:OO LK∧(Jj LK).length≤4096:=⟨⟨⟨be _,eV⟩,eV,eV,eV,eV⟩,eV⟩;unfold MR;split;·exact z
 rename_i h;split;·exact z
 split;·exact z
 obtain⟨l1,l2,l3,l4,l5⟩:=Ld s;exact AWM _ ⟨eT,eT,eT⟩
theorem ANl (a:ApiURL) (r:List UInt8):OO (V5 N a r).1∧(Jj (V5 N a r).1).length≤4096:=by
 have z:OO LK∧(Jj LK).length≤4096:=⟨⟨⟨be _,eV⟩,eV,eV,eV,eV⟩,eV⟩;unfold V5;split
 ·split;·exact z
  ·split;·exact AGu _
   ·exact z
 ·exact z
def KH (l:List ApiField) (k:List UInt8):List UInt8×Bool:=match l with |[]=>([],false)|f::l=>if(f.name==k)=true then(f.value,true)else KH l k
def Qu (l:List ApiService) (k:List UInt8):List (List UInt8)×Bool:=match l with |[]=>([],false)|f::l=>if(f.iD==k)=true then(f.endpoints,true)else Qu l k
theorem VB (k:List UInt8) (k2:Unit→Option (List UInt8×Bool)) (h:k2 ()=some ([],false)): ∀l:List ApiField,EB N k k2 l=some (KH l k) |[]=>by rw[EB,h];rfl| f::l=>by rw[EB,KH,VB k k2 h l];split<;>rfl
theorem AH6 (l:List ApiField) (k:List UInt8) (h:l.length≤1000000):JA N l k=some (KH l k):=by unfold JA;rw[AB,BR eT,VB k _ rfl]
theorem VA (k:List UInt8) (k2:Unit→Option (List UInt8×Bool)) (h:k2 ()=some ([],false)): ∀l:List ApiField,EF N k k2 l=some (KH l k) |[]=>by rw[EF,h];rfl| f::l=>by rw[EF,KH,VA k k2 h l];split<;>rfl
theorem AH5 (l:List ApiField) (k:List UInt8) (h:l.length≤1000000):I6 N l k=some (KH l k):=by unfold I6;rw[AB,BR eT,VA k _ rfl]
theorem Ux (k:List UInt8) (k2:Unit→Option (List (List UInt8)×Bool)) (h:k2 ()=some ([],false)): ∀l:List ApiService,CG N k k2 l=some (Qu l k) |[]=>by rw[CG,h];rfl| f::l=>by rw[CG,Qu,Ux k k2 h l];split<;>rfl
theorem AUO (d:ApiDoc) (k:List UInt8) (h:d.services.length≤1000000):GX N d k=some (Qu d.services k):=by unfold GX;rw[AB,BR eT,Ux k _ rfl]
theorem AG1{n:Nat} (s:List UInt8) (hs:s.length≤n) (out:List ApiField) (h: ∀f,f∈out→f.value.length≤n): ∀f,f∈H9 N out s→f.value.length≤n:=by
 have c:=FE 61 s;have d:=Sq (N:=N) (AP 61 s).2.1;unfold H9;split;·exact h
 split
 ·intro f hf;simp only[aV,aL,cm,dj]at hf;rcases hf with hf|rfl;·exact h f hf
  ·dsimp only;omega
 ·exact h
theorem U2{n:Nat}: ∀(xs:List (List UInt8)) (out:List ApiField),(∀x,x∈xs→x.length≤n)→(∀f,f∈out→f.value.length≤n)→∀f,f∈xs.foldl (H9 N) out→f.value.length≤n |[],out,_,h=>h| x::xs,out,AO,h=>by rw[bJ];exact U2 xs _ (fun y hy=>AO y (by simp[hy])) (AG1 x (AO x eU) out h)
theorem AO5 (q:List UInt8): ∀f,f∈Tq N q→f.value.length≤q.length:=U2 _ _ (fun x AO=>by have:=Fp 38 q x AO;omega) eU
theorem QH{n:Nat} (k:List UInt8): ∀l:List ApiField,(∀f,f∈l→f.value.length≤n)→(KH l k).1.length≤n
 |[],_=>by simp[KH]
 | f::l,h=>by
  rw[KH];split;·exact h f eU
  ·exact QH k l fun g hg=>h g (by simp[hg])
theorem AHq{α:Type}{f:Int→ApiValue→α×Int}: ∀(l:List ApiValue) (e:Int) (acc:List α),(Ht f l e acc).1.length=acc.length+l.length∧∀x,x∈(Ht f l e acc).1→x∈acc∨∃e v,v∈l∧x=(f e v).1
 |[],e,acc=>⟨by simp[Ht],fun x h=>.inl h⟩
 | v::l,e,acc=>by
  obtain⟨h1,h2⟩:=AHq (f:=f) l (f e v).2 (acc++[(f e v).1]);unfold Ht at *;rw[bJ];refine⟨by rw[h1];simp;omega,fun x AO=>?_⟩;rcases h2 x AO with h|⟨e',v',hv,AO⟩
  ·simp only[aV,aL,cm,dj]at h;rcases h with h|h;·exact .inl h
   ·exact .inr ⟨e,v,eU,h⟩
  ·exact .inr ⟨e',v',by simp[hv],AO⟩
theorem ASs{e:Int}{m:ApiValue} (h:okT m): ∀x,x∈(Kk e m).1→x.length≤100000:=by
 unfold Kk;split;·intro x AO;simp only[aL,cm,dj]at AO;rw[AO];exact h.text
 ·intro x AO;simp only[bo]at AO;obtain⟨v,hv,rfl⟩:=AO;exact(AMN h v hv).text
theorem AJU{d:ApiDID}{e:Int}{v:ApiValue} (h:okT v): ∀x,x∈(Hy N d e v).1.endpoints→x.length≤100000:=by
 unfold Hy;split;·exact ASs (J5 h kEp)
 ·simp
theorem ADX{v:ApiValue} (h:okT v):(R4 N v).1.services.length≤64∧∀s,s∈(R4 N v).1.services→∀x,x∈s.endpoints→x.length≤100000:=by
 have z:ACj.services.length≤64∧∀s,s∈ACj.services→∀x,x∈s.endpoints→x.length≤100000:=⟨eV,by simp[ACj]⟩;unfold R4;split;·exact z
 split;·exact z
 dsimp only;split;·exact z
 ·dsimp only;generalize (Ht (KR N _) _ _ _)=M;have l2:=Nz M.2 (Ao v kSe);have ok2:=Sm (e:=M.2) (J5 h kSe);obtain⟨s1,s2⟩:=AHq (f:=Hy N (Lu (Ao v [105,100]).1.text).1) (CL M.2 (Ao v kSe)).1 (CL M.2 (Ao v kSe)).2 [];refine⟨by rw[s1];simp;omega,fun s hs x AO=>?_⟩;rcases s2 s hs with k|⟨e,w,hw,rfl⟩;·cases k
  ·exact AJU (ok2 w hw) x AO
theorem AHy (k:List UInt8): ∀l:List ApiService,(∀s,s∈l→∀x,x∈s.endpoints→x.length≤100000)→∀x,x∈(Qu l k).1→x.length≤100000
 |[],_=>by simp[Qu]
 | s::l,h=>by
  rw[Qu];split;·exact h s eU
  ·exact AHy k l fun t ht=>h t (by simp[ht])
def MI:List UInt8:=[115,101,114,118,105,99,101]
def kRR:List UInt8:=[114,101,108,97,116,105,118,101,82,101,102]
def Vz (u:ApiDIDURL) (y:ApiURL):ApiURL:=if(u.hasFrag&&!y.hasFrag)=true then⟨y.host,y.port,y.path,y.query,u.fragment,y.hasQuery,true⟩else y
def Vd (u:ApiDIDURL) (y:ApiURL):List UInt8×Int:=if(Jj (Vz u y)).length>4096 then([],292)else(Jj (Vz u y),0)
def ANr (N:Nat) (u:ApiDIDURL) (ps:List ApiField) (at_:List (List UInt8)):List UInt8×Int:=match at_ with |[]=>([],292)| t::_=>if((MR N t).2 !=0)=true then([],292) else if(KH ps kRR).2=true then(if((V5 N (MR N t).1 (KH ps kRR).1).2 !=0)=true then([],292)else Vd u (V5 N (MR N t).1 (KH ps kRR).1).1) else Vd u (MR N t).1
def F8 (N:Nat) (u:ApiDIDURL):List ApiField:=if u.hasQuery=true then Tq N u.query else []
def ATr (N:Nat) (v:ApiValue) (u:ApiDIDURL):List UInt8×Int:=if((R4 N v).2 !=0)=true then([],(R4 N v).2) else if((KH (F8 N u) MI).2&&(Qu (R4 N v).1.services ((Ii u.dID++[35])++(KH (F8 N u) MI).1)).2)=true then ANr N u (F8 N u) (Qu (R4 N v).1.services ((Ii u.dID++[35])++(KH (F8 N u) MI).1)).1 else([],290)
theorem ANy{u:ApiDIDURL}{y:ApiURL} (h:OO y) (hu:u.fragment.length≤1000000):OO (Vz u y):=by
 unfold Vz;split;·exact⟨h.1,h.2.1,h.2.2.1,h.2.2.2.1,hu⟩
 ·exact h
theorem ACS{u:ApiDIDURL}{y:ApiURL} (h:OO y) (hu:u.fragment.length≤1000000) (hN:20≤N){d1:JD (List UInt8×Bool)}{d2:JD Bool}:(AA (fun j34:(List UInt8)×Bool=>Option.bind (D9 N (ApiURL.mk y.host y.port y.path y.query j34.1 y.hasQuery j34.2)) fun y42=>if(decide ((y42.length:Int)>4096))=true then some (([]:List UInt8),(292:Int)) else some (y42,0)) (fun k35=>AA (fun j38:Bool=>if j38=true then k35 (u.fragment,true) else k35 (y.fragment,y.hasFrag)) (fun k39=>if u.hasFrag=true then k39 (!y.hasFrag) else k39 false) d2) d1)=some (Vd u y):=by
 have b:=ANy (u:=u) h hu;unfold Vd;dsimp only[AB];unfold Vz at *;cases hf:u.hasFrag<;>cases hy:y.hasFrag;all_goals simp only[dk,bu,bg,bI,av,aR,aE,hy,hf]at b⊢
 all_goals (first| rw[show(ApiURL.mk y.host y.port y.path y.query y.fragment y.hasQuery false)=y from by rw[←hy]]| rw[show(ApiURL.mk y.host y.port y.path y.query y.fragment y.hasQuery true)=y from by rw[←hy]]| skip)
 all_goals rw[Py _ b hN,aa]
 all_goals (split<;>(rename_i k;simp only[al]at k;first| rw[ah eT]| rw[ag eT]))
theorem AD2{u:ApiDIDURL}{y:ApiURL} (h:OO y) (hu:u.fragment.length≤1000000) (hN:20≤N){d1:JD (List UInt8×Bool)}{d2:JD Bool}:(AA (fun j14:(List UInt8)×Bool=>Option.bind (Eo N (ApiURL.mk y.host y.port y.path y.query j14.1 y.hasQuery j14.2)) fun y22=>if(decide ((y22.length:Int)≤4096))=true then some (y22,(0:Int)) else some (([]:List UInt8),292)) (fun k15=>AA (fun j18:Bool=>if j18=true then k15 (u.fragment,true) else k15 (y.fragment,y.hasFrag)) (fun k19=>if u.hasFrag=true then k19 (!y.hasFrag) else k19 false) d2) d1)=some (Vd u y):=by
 have b:=ANy (u:=u) h hu;unfold Vd;dsimp only[AB];unfold Vz at *;cases hf:u.hasFrag<;>cases hy:y.hasFrag;all_goals simp only[dk,bu,bg,bI,av,aR,aE,hy,hf]at b⊢
 all_goals (first| rw[show(ApiURL.mk y.host y.port y.path y.query y.fragment y.hasQuery false)=y from by rw[←hy]]| rw[show(ApiURL.mk y.host y.port y.path y.query y.fragment y.hasQuery true)=y from by rw[←hy]]| skip)
 all_goals rw[QG _ b hN,aa]
 all_goals (split<;>(rename_i k;simp only[al]at k;first| rw[ah eT]| rw[ag eT]))
theorem Xf (u:ApiDIDURL) (h:u.query.length≤5000):(F8 N u).length≤10000∧∀f,f∈F8 N u→f.value.length≤5000:=by
 unfold F8;split;·have a:=U8 (N:=N) (Al 38 u.query) [];have b:=Ih 38 u.query;have c:=AO5 (N:=N) u.query;refine⟨by unfold Tq;simp only[an]at a;omega,fun f hf=>by have:=c f hf;omega⟩
 ·simp
theorem AQR (u:ApiDIDURL) (h:u.query.length≤5000) (hN:1000000≤N):JU N u=some (F8 N u):=by
 unfold JU F8;split;·rw[ATv _ eT eT];rfl
 ·rfl
theorem AAZ (u:ApiDIDURL) (h:u.query.length≤5000) (hN:1000000≤N):Hf N u=some (F8 N u):=by
 unfold Hf F8;split;·rw[ATP _ eT eT];rfl
 ·rfl
theorem AHO (v:ApiValue) (u:ApiDIDURL) (hv:okT v) (hq:u.query.length≤5000) (hf:u.fragment.length≤5000) (hd:u.dID.method.length≤5000∧u.dID.iD.length≤5000) (hN:1000000≤N):FN N v u=some (ATr N v u):=by
 obtain⟨e1,e2⟩:=ADX (N:=N) hv;obtain⟨p1,p2⟩:=Xf (N:=N) u hq;have l0:(Ii u.dID).length≤20000:=by unfold Ii;simp only[aj,ae,an];omega
 have f1:=QH MI (F8 N u) p2;have f2:=QH kRR (F8 N u) p2;unfold FN ATr;rw[ARq v hv eT,aa];split;·rfl
 rw[AQR u hq hN,aa,show([115,101,114,118,105,99,101]:List UInt8)=MI from rfl,AH6 _ _ eT,aa,AB,QS _ ⟨eT,eT⟩,aa,BR eW,BR eW,AUO _ _ eT,aa];have em:=AHy ((Ii u.dID++[35])++(KH (F8 N u) MI).1) _ e2;generalize Qu (R4 N v).1.services ((Ii u.dID++[35])++(KH (F8 N u) MI).1)=X at *;obtain⟨at_,fo⟩:=X;dsimp only at em⊢;refine(Bo (a:=!((KH (F8 N u) MI).2&&fo)) fun k=>by cases (KH (F8 N u) MI).2<;>rfl).trans ?_;by_cases hk:((KH (F8 N u) MI).2&&fo)=true;rotate_left;·rw[ag hk];simp only[ek]at hk;rw[hk];rfl
 rw[ah hk,hk,ag eV];cases at_ with
 |nil=>rfl
 | cons t ts=>
  have ht:=em t eU;unfold ANr;obtain⟨wB,wl⟩:=AGu (N:=N) t;rw[ag eW,show idx (t::ts) 0=some t from rfl,aa,TB t eT eT,aa,AB,show([114,101,108,97,116,105,118,101,82,101,102]:List UInt8)=kRR from rfl,AH6 _ _ eT,aa];dsimp only;refine(Bo (a:=(KH (F8 N u) kRR).2&&((MR N t).2==0)) fun k=>by cases (KH (F8 N u) kRR).2<;>rfl).trans ?_;obtain⟨rB,rl⟩:=ANl (N:=N) (MR N t).1 (KH (F8 N u) kRR).1;by_cases h0:((MR N t).2 !=0)=true
  ·have h0':((MR N t).2==0)=false:=by simpa using h0
   rw[ah h0,h0',Bool.and_false,ag eV,ah h0]
  ·have h0':((MR N t).2==0)=true:=by simpa using h0
   rw[ag h0,h0',dw];split
   ·rw[ASX _ _ wB eT eT hN,aa];split;·rfl
    ·exact ACS rB eT eT
   ·exact ACS wB eT eT
theorem AOv (s:ApiService) (u:ApiDIDURL) (hs: ∀x,x∈s.endpoints→x.length≤100000) (hq:u.query.length≤5000) (hf:u.fragment.length≤5000) (hN:1000000≤N):Gq N s u=some (ANr N u (F8 N u) s.endpoints):=by
 obtain⟨p1,p2⟩:=Xf (N:=N) u hq;have f2:=QH kRR (F8 N u) p2;unfold Gq;cases hat:s.endpoints with
 |nil=>rfl
 | cons t ts=>
  have ht:=hs t (by simp[hat]);unfold ANr;obtain⟨wB,wl⟩:=AGu (N:=N) t;rw[ag eW,show idx (t::ts) 0=some t from rfl,aa,S9 t eT eT,aa];dsimp only;split;·rfl
  rw[AB,AAZ u hq hN,aa,show([114,101,108,97,116,105,118,101,82,101,102]:List UInt8)=kRR from rfl,AH5 _ _ eT,aa];obtain⟨rB,rl⟩:=ANl (N:=N) (MR N t).1 (KH (F8 N u) kRR).1;split
  ·rw[ASa _ _ wB eT eT hN,aa];split;·rfl
   ·exact AD2 rB eT eT
  ·exact AD2 wB eT eT
theorem AEe (u:ApiDIDURL) (hq:u.query.length≤5000) (hf:u.fragment.length≤5000) (hd:u.dID.method.length≤5000∧u.dID.iD.length≤5000) (hN:1000000≤N) (y5:List UInt8×Bool) (hy:y5.1.length≤5000): ∀l:List ApiService,(∀s,s∈l→∀x,x∈s.endpoints→x.length≤100000)→DR N u y5 (fun _=>some ([],290)) l=some (if(Qu l ((Ii u.dID++[35])++y5.1)).2=true then ANr N u (F8 N u) (Qu l ((Ii u.dID++[35])++y5.1)).1 else([],290))
 |[],_=>by rw[DR];rfl
 | s::l,h=>by
  have l0:(Ii u.dID).length≤20000:=by unfold Ii;simp only[aj,ae,an];omega
  rw[DR,QF _ ⟨eT,eT⟩,aa,BR eW,BR eW,Qu];split;·rw[AOv s u (h s eU) hq hf hN];rfl
  ·exact AEe u hq hf hd hN y5 hy l fun t ht=>h t (by simp[ht])
theorem AIN (v:ApiValue) (u:ApiDIDURL) (hv:okT v) (hq:u.query.length≤5000) (hf:u.fragment.length≤5000) (hd:u.dID.method.length≤5000∧u.dID.iD.length≤5000) (hN:1000000≤N):Fw N v u=some (ATr N v u):=by
 obtain⟨e1,e2⟩:=ADX (N:=N) hv;obtain⟨p1,p2⟩:=Xf (N:=N) u hq;have f1:=QH MI (F8 N u) p2;unfold Fw ATr;rw[ASc v hv eT,aa];split;·rfl
 rw[AAZ u hq hN,aa,show([115,101,114,118,105,99,101]:List UInt8)=MI from rfl,AH5 _ _ eT,aa];cases (KH (F8 N u) MI).2;·rfl
 ·rw[ah rfl,AB,BR eT,AEe u hq hf hd hN _ f1 _ e2];rfl
end
end Go.VM
namespace Go.VM
theorem Ox (s:List UInt8) (h0:s.length≤reachBytes) (u:ApiDIDURL) (hu:Q5 u) (q:List UInt8) (hq:q.length≤reachBytes):E8 1099511627776 s u q=some true:=by
 obtain⟨⟨u1,u2⟩,u3,u4,u5,_,_⟩:=hu;have hr:reachBytes≤2^59:=eV;unfold E8;rw[AVc,aa,ah rfl];dsimp only[AB];have z: ∀ {a b:Option Bool},(if(decide ((s.length:Int)>1500))=true then(if true=true then some true else a)else b)=some true↔((s.length:Int)>1500∨b=some true):=by
  intro a b;by_cases h:(s.length:Int)>1500;·rw[ah (aF h)];simp[h]
  ·rw[ag (by simpa using h)];simp[h]
 rw[z];by_cases hl:(s.length:Int)>1500;·exact .inl hl
 refine .inr ?_;rw[AQ (n:=(q.length:Int)+(u.query.length:Int)) eT,AQ (n:=(q.length:Int)+(u.query.length:Int)+(u.path.length:Int)) eT,AQ (n:=(q.length:Int)+(u.query.length:Int)+(u.path.length:Int)+(u.fragment.length:Int)) eT,AQ (n:=(q.length:Int)+(u.query.length:Int)+(u.path.length:Int)+(u.fragment.length:Int)+(u.dID.iD.length:Int)) eT,AQ (n:=(q.length:Int)+(u.query.length:Int)+(u.path.length:Int)+(u.fragment.length:Int)+(u.dID.iD.length:Int)+(u.dID.method.length:Int)) eT];by_cases hs:(q.length:Int)+(u.query.length:Int)+(u.path.length:Int)+(u.fragment.length:Int)+(u.dID.iD.length:Int)+(u.dID.method.length:Int)>1000;·rw[ah (aF hs)]
 rw[ag (by simpa using hs)];obtain⟨v,e1,k1,_⟩:=(PM (N:=1099511627776) (l:=s) eT eT);rw[e1,aa];obtain⟨w,e2,k2,_⟩:=(PM (N:=1099511627776) (l:=[123,34,105,100,34,58,34,100,105,100,58,119,101,98,58,97,46,101,120,97,109,112,108,101,34,44,34,115,101,114,118,105,99,101,34,58,91,123,34,105,100,34,58,34,35,102,105,108,101,115,34,44,34,116,121,112,101,34,58,34,88,34,44,34,115,101,114,118,105,99,101,69,110,100,112,111,105,110,116,34,58,34,104,116,116,112,115,58,47,47,97,46,101,120,97,109,112,108,101,47,102,47,34,125,93,125]) eV eV);rw[e2,aa,AHO v.1 u k1 eT eT ⟨eT,eT⟩ eV,aa,AIN v.1 u k1 eT eT ⟨eT,eT⟩ eV,aa,AHO w.1 _ k2 (by dsimp only;omega) (by dsimp only;omega) ⟨by dsimp only;decide,by dsimp only;decide⟩ eV,aa,AIN w.1 _ k2 (by dsimp only;omega) (by dsimp only;omega) ⟨by dsimp only;decide,by dsimp only;decide⟩ eV,aa];simp
end Go.VM
