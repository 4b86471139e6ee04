import Derived.Test.YtjmejdocgdbklaaGreatDoorL11
import Derived.Test.YtjmejdocgdbklaaGreatDoorDefs
import Derived.Test.YtjmejdocgdbklaaGreatDoorRd
set_option linter.defProp false
set_option linter.unusedVariables false
set_option linter.unusedSimpArgs false
namespace Go.VM
section
variable{N:Nat}{l:B8}
def Xb (p:Ref14Parser) (i e:Int):Ref14Parser:=if p.fail==0 then Ref14Parser.mk p.s p.at_ p.nodes e i else p
def Kw (p:Ref14Parser) (i e:Int):BC N p i e=some (Xb p i e):=by unfold BC Xb;split<;>rfl
def isQ (t:ApiToken) (c:B8):Hu N t c=some (t.kind==2&&t.text==c):=by unfold Hu;cases t.kind==2<;>simp
def Gc{p:Ref14Parser} (h:p.fail=0) (i e:Int):Xb p i e=Ref14Parser.mk p.s p.at_ p.nodes e i:=by simp[Xb,h]
def Ado{p:Ref14Parser} (h:p.fail≠0) (i e:Int):Xb p i e=p:=by simp[Xb,h]
def noT:ApiToken:=ApiToken.mk 0 [] 0
def Y4 (N:Nat) (l:B8) (E:Nat) (t:ApiToken) (next:Int) (p:JPsr):Option (ApiValue×Int×Int):=(Ea N p t).bind λq=>if q.2 !=0 then some (F4,t.at_,q.2)else if t.kind==1 then some (q.1.out,l.length,0)else Le N l E next q.1
def AXG (hb:l.length<=2^40) (hN:l.length+10<=N) (E i:Nat) (hi:i<=l.length) (p:JPsr):Le N l (E+1) i p=if(Py N l i).2.2≠0 then some (F4,(i:Int),(Py N l i).2.2)else Y4 N l E (Py N l i).1 (Py N l i).2.1 p:=by
 rw[Le,Acp hb hN hi,aa];by_cases h:(Py N l i).2.2=0;·rw[ae (by simp[h]),ae (by simp[h])];rfl
 ·rw[ah (by simp[h]),ah h]
structure MR (N:Nat) (l:B8) (X:Option (ApiValue×Int×Int)) (S:Int->JPsr) (p:Ref14Parser):Prop where
  s:p.s=l
  lo:0<=p.at_
  hi:p.at_<=l.length
  bad:p.fail≠0->X=some (F4,p.where_,p.fail)
  ok:p.fail=0-> ∃E i:Nat,p.at_=i/\l.length+2<=E+i/\0<=p.nodes/\p.nodes<=20000/\X=Le N l E i (S p.nodes)
structure TR (N:Nat) (l:B8) (X:Option (ApiValue×Int×Int)) (S:Int->JPsr) (t:ApiToken) (p:Ref14Parser):Prop where
  s:p.s=l
  lo:0<=p.at_
  hi:p.at_<=l.length
  bad:p.fail≠0->X=some (F4,p.where_,p.fail)/\t=noT
  ok:p.fail=0->TK l.length t/\ ∃E i:Nat,p.at_=i/\(t.kind≠1->l.length+2<=E+i)/\0<=p.nodes/\p.nodes<=20000/\X=Y4 N l E t i (S p.nodes)
structure NQ (N:Nat) (l:B8) (X:Option (ApiValue×Int×Int)) (S:Int->JPsr) (p:Ref14Parser) (r:ApiToken×Ref14Parser):Prop where
  tr:TR N l X S r.1 r.2
  le:p.at_<=r.2.at_
  on:r.2.fail=0->p.fail=0/\(r.1.kind≠1->p.at_<r.2.at_)
def VU (hb:l.length<=2^40) (hN:l.length+10<=N){X:Option (ApiValue×Int×Int)}{S:Int->JPsr}{p:Ref14Parser} (h:MR N l X S p):Ok (BA N p) (NQ N l X S p):=by
 unfold BA;by_cases hf:p.fail=0
 ·rw[ae (by simp[hf])];obtain⟨E,i,h1,h2,h3,h4,h5⟩:=h.ok hf;have hi:i<=l.length:=by have:=h.hi;omega
  obtain⟨E,rfl⟩: ∃k,E=k+1:=⟨E-1,fy⟩;rw[AXG hb hN E i hi]at h5;rw[h.s,h1,Af9 hb hN hi,AA,aa];dsimp only;by_cases he:(Py N l i).2.2=0;·rw[ae (by simp[he])];rw[ae (by simp[he])]at h5;obtain⟨k1,j,k2,k3,k4,k5⟩:=Aer hi he;refine Ok.ret ⟨⟨rfl,by simp only[];omega,by simp only[];omega,λhz=>absurd hf hz,λ_=>⟨k1,E,j,k2,λhk=>by have:=k5 hk;omega,h3,h4,?_⟩⟩,by simp only[];omega,λ_=>⟨hf,λhk=>by have:=k5 hk;simp only[];omega⟩⟩;rw[k2]at h5;exact h5
  ·rw[ah (by simp[he]),Kw,aa,Gc hf];rw[ah he]at h5;exact Ok.ret ⟨⟨h.s,h.lo,h.hi,λ_=>⟨h5,rfl⟩,λhz=>absurd hz he⟩,br _,λhz=>absurd hz he⟩
 ·rw[ah (by simp[hf])];exact Ok.ret ⟨⟨h.s,h.lo,h.hi,λ_=>⟨h.bad hf,rfl⟩,λhz=>absurd hz hf⟩,br _,λhz=>absurd hz hf⟩
def TR.stop{X:Option (ApiValue×Int×Int)}{S:Int->JPsr}{t:ApiToken}{p:Ref14Parser} (h:TR N l X S t p) (hf:p.fail=0){e:Int} (he:e≠0) (hx: ∀n,0<=n->n<=20000->∃q,Ea N (S n) t=some (q,e)){S':Int->JPsr}:MR N l X S' (Xb p t.at_ e):=by obtain⟨_,E,i,h1,h2,h3,h4,h5⟩:=h.ok hf;rw[Gc hf];refine⟨h.s,h.lo,h.hi,λ_=>?_,λhz=>absurd hz he⟩;obtain⟨q,hq⟩:=hx _ h3 h4;rw[h5,Y4,hq,aa,ah (by simp[he])]
def TR.dead{X:Option (ApiValue×Int×Int)}{S S':Int->JPsr}{t:ApiToken}{p:Ref14Parser} (h:TR N l X S t p) (hf:p.fail≠0):MR N l X S' p:=⟨h.s,h.lo,h.hi,λ_=>(h.bad hf).1,λhz=>absurd hz hf⟩
def MR.dead{X:Option (ApiValue×Int×Int)}{S S':Int->JPsr}{p:Ref14Parser} (h:MR N l X S p) (hf:p.fail≠0):MR N l X S' p:=⟨h.s,h.lo,h.hi,λ_=>h.bad hf,λhz=>absurd hz hf⟩
def TR.go{X:Option (ApiValue×Int×Int)}{S S':Int->JPsr}{t:ApiToken}{p:Ref14Parser} (h:TR N l X S t p) (hk:p.fail=0->t.kind≠1/\∀n,Ea N (S n) t=some (S' n,0)):MR N l X S' p:=by refine⟨h.s,h.lo,h.hi,λhz=>(h.bad hz).1,λhf=>?_⟩;obtain⟨_,E,i,h1,h2,h3,h4,h5⟩:=h.ok hf;obtain⟨h6,h7⟩:=hk hf;refine⟨E,i,h1,h2 h6,h3,h4,?_⟩;rw[h5,Y4,h7,aa,ae fA,ae (by simp[h6])]
def Tx (l:B8) (p:Ref14Parser):Nat:=if p.fail=0 then l.length-p.at_.toNat+2 else 1
def Uo (p:Ref14Parser):1<=Tx l p:=by unfold Tx;split<;>omega
def ANF (q:Ref14Parser):Tx l q<=l.length+2:=by unfold Tx;split<;>omega
def AAu{p q:Ref14Parser} (hp:0<=p.at_/\p.at_<=l.length) (hf:p.fail=0) (hq:0<=q.at_/\q.at_<=l.length) (h:q.fail=0->p.at_<q.at_):Tx l q+1<=Tx l p:=by
 unfold Tx;rw[ah hf];split;·rename_i e;have:=h e;omega
 ·omega
def inA (st:List ApiValue) (out v:ApiValue) (w:Int) (n:Int):JPsr:=⟨st++[v],w,n,out⟩
def Zx (st:List ApiValue) (out v:ApiValue) (n:Int):JPsr:=H9 ⟨st,0,n,out⟩ v
def AI1 (items:List ApiValue):ApiValue:=⟨6,[],[],items⟩
def PP (keys:List B8) (items:List ApiValue):ApiValue:=⟨7,[],keys,items⟩
def Abh (st:List ApiValue) (out v x:ApiValue) (n:Int):Zx (st++[v]) out x n=inA st out {v with items:=v.items++[x]} 5 n:=by simp[Zx,inA,H9]
def VE (v:ApiValue):B8:=if v.kind==7 then [125]else [93]
def AAZ (st:List ApiValue) (out v:ApiValue) (w n:Int):Jl (inA st out v w n)=VE v:=by simp[Jl,inA,VE]
def ASF (p:JPsr) (w:Int) (v:ApiValue):H9 {p with want:=w} v=H9 p v:=by unfold H9;rfl
def VQ (N:Nat) (l:B8) (X:Option (ApiValue×Int×Int)) (st:List ApiValue) (out:ApiValue) (p:Ref14Parser) (r:ApiValue×Ref14Parser):Prop:=MR N l X (Zx st out r.1) r.2/\p.at_<=r.2.at_/\(r.2.fail=0->p.fail=0)
def ABq{n b:Nat} (h:n<=1000000000) (hb:b<=100):CW n b:=by unfold CW;have:n * b<=1000000000 * 100:=eB h hb;omega
def QA{p:JPsr}{t:ApiToken} (h:Db p t=false):Ea N p t=some (p,140):=by unfold Ea;rw[ah h]
theorem AZ9{st:List ApiValue}{out v:ApiValue}{w n:Int}{p:Int} (hw:w=1\/w=3\/w=5):Db (inA st out v w n) (ApiToken.mk 2 (VE v) p)=true:=by
 have e:Qe (inA st out v w n) (ApiToken.mk 2 (VE v) p)=true:=by unfold Qe;rw[AAZ];simp
 have hw2:(inA st out v w n).want=w:=rfl;unfold Db;rw[e,hw2];rcases hw with rfl|rfl|rfl<;>simp
def R4{st:List ApiValue}{out v:ApiValue}{w n:Int}{p:Int} (hw:w=1\/w=3\/w=5):Ea N (inA st out v w n) (ApiToken.mk 2 (VE v) p)=some (Zx st out v n,0):=by
 unfold Ea;rw[ae (by rw[AZ9 hw];decide),ah (show((ApiToken.mk 2 (VE v) p).kind==2)=true from rfl)];have e:(inA st out v w n).stack.getLast?=some v:=by simp[inA]
 have e2:({inA st out v w n with stack:=(inA st out v w n).stack.dropLast}:JPsr)=⟨st,w,n,out⟩:=by simp[inA]
 unfold Pi;rw[e,e2];unfold VE;cases v.kind==7;·exact a8 some (a8 (·,(0:Int)) (ASF ⟨st,0,n,out⟩ w v))
 ·exact a8 some (a8 (·,(0:Int)) (ASF ⟨st,0,n,out⟩ w v))
def AB4{st:List ApiValue}{out v:ApiValue}{n:Int}{p:Int}:Ea N (inA st out v 5 n) (ApiToken.mk 2 [44] p)=some (inA st out v (if v.kind==7 then 2 else 0) n,0):=by
 have e:(inA st out v 5 n).stack.getLast?=some v:=by simp[inA]
 have hf:Db (inA st out v 5 n) (ApiToken.mk 2 [44] p)=true:=by unfold Db;simp[inA]
 unfold Ea;rw[ae (by rw[hf];decide),ah (show((ApiToken.mk 2 [44] p).kind==2)=true from rfl)];unfold Pi;rw[e];rfl
def ATX{st:List ApiValue}{out v:ApiValue}{n:Int}{p:Int}:Ea N (inA st out v 4 n) (ApiToken.mk 2 [58] p)=some (inA st out v 0 n,0):=by
 have hf:Db (inA st out v 4 n) (ApiToken.mk 2 [58] p)=true:=by unfold Db;simp[inA]
 unfold Ea;rw[ae (by rw[hf];decide),ah (show((ApiToken.mk 2 [58] p).kind==2)=true from rfl)];rfl
theorem Al6{st:List ApiValue}{out v:ApiValue}{n:Int}{t:ApiToken} (h1:(t.kind==2&&t.text==[44])=false) (h2:(t.kind==2&&t.text==VE v)=false):Db (inA st out v 5 n) t=false:=by unfold Db Qe;rw[AAZ];have hw2:(inA st out v 5 n).want=5:=rfl;rw[hw2,h1,h2];rfl
theorem Apj{st:List ApiValue}{out v:ApiValue}{n:Int}{t:ApiToken} (h1:(t.kind==2&&t.text==[58])=false):Db (inA st out v 4 n) t=false:=by unfold Db;have hw2:(inA st out v 4 n).want=4:=rfl;rw[hw2,h1];rfl
theorem fits1{st:List ApiValue}{out v:ApiValue}{n:Int}{t:ApiToken} (h2:(t.kind==2&&t.text==VE v)=false):Db (inA st out v 1 n) t=Gr t:=by unfold Db Qe;rw[AAZ];have hw2:(inA st out v 1 n).want=1:=rfl;rw[hw2,h2];simp
def Agf{p:JPsr}{t:ApiToken} (h:p.want=0):Db p t=Gr t:=by unfold Db;simp[h]
theorem Alh{st:List ApiValue}{out v:ApiValue}{w n:Int}{t:ApiToken} (hw:w=2\/w=3) (h2:w=3->(t.kind==2&&t.text==VE v)=false):Db (inA st out v w n) t=(t.kind==3):=by
 unfold Db Qe;rw[AAZ];have hw2:(inA st out v w n).want=w:=rfl;rw[hw2];rcases hw with rfl|rfl;·simp
 ·rw[h2 rfl];simp
def AOA{st:List ApiValue}{out:ApiValue}{keys:List B8}{items:List ApiValue}{w n:Int}{s:B8}{p:Int} (hw:w=2\/w=3):Ea N (inA st out (PP keys items) w n) (ApiToken.mk 3 s p)=if s∈keys then some (inA st out (PP keys items) w n,143)else some (inA st out (PP (keys++[s]) items) 4 n,0):=by
 have hf:Db (inA st out (PP keys items) w n) (ApiToken.mk 3 s p)=true:=by rw[Alh hw (λ_=>rfl)];rfl
 have hw2:((inA st out (PP keys items) w n).want==2||(inA st out (PP keys items) w n).want==3)=true:=by rcases hw with rfl|rfl<;>rfl
 have e:(inA st out (PP keys items) w n).stack.getLast?=some (PP keys items):=by simp[inA]
 unfold Ea;rw[ae (by rw[hf];decide),ae (λh=>absurd (show((3:Int)==2)=true from h) fB),ah hw2];unfold WA;rw[e];dsimp only;by_cases h:s∈keys;·rw[ah h,ah (show s∈(PP keys items).keys from h)]
 ·rw[ae h,ae (show¬s∈(PP keys items).keys from h)];simp[inA,PP]
def UI{st:List ApiValue}{out:ApiValue}{w n:Int}{p:Int} (c:UInt8) (hc:c=91\/c=123) (hf:Db ⟨st,w,n,out⟩ (ApiToken.mk 2 [c] p)=true):Ea N ⟨st,w,n,out⟩ (ApiToken.mk 2 [c] p)=some (if c=91 then Gp ⟨st,w,n,out⟩ 6 1 else Gp ⟨st,w,n,out⟩ 7 3):=by unfold Ea;rw[ae (by rw[hf];decide),ah (show((ApiToken.mk 2 [c] p).kind==2)=true from rfl)];rcases hc with rfl|rfl<;>rfl
def ARW (N:Nat) (t:ApiToken):ApiValue:=if t.kind==4 then⟨4,(Ym N t.text).1,[],[]⟩else if t.kind==5 then⟨Ud t.text,[],[],[]⟩else⟨5,t.text,[],[]⟩
def ABG{st:List ApiValue}{out:ApiValue}{w n:Int}{t:ApiToken} (hw:w=0\/w=1) (hf:Db ⟨st,w,n,out⟩ t=true) (hk:t.kind=3\/t.kind=4\/t.kind=5) (hn:t.kind=4->Dz N t.text=some (Ym N t.text)):Ea N ⟨st,w,n,out⟩ t=some (if t.kind=4/\(Ym N t.text).2≠0 then(⟨st,w,n,out⟩,144)else Mt ⟨st,w,n,out⟩ (ARW N t)):=by
 have h1:(t.kind==2)=false:=by rcases hk with h|h|h<;>rw[h]<;>rfl
 have h2:(w==2||w==3)=false:=by rcases hw with h|h<;>rw[h]<;>rfl
 have h3:(t.kind==1)=false:=by rcases hk with h|h|h<;>rw[h]<;>rfl
 unfold Ea;rw[ae (by rw[hf];decide),ae (by rw[h1];decide)];dsimp only;rw[ae (by rw[h2];decide),ae (by rw[h3];decide)];unfold Rf ARW;rcases hk with h|h|h;·rw[h];rfl
 ·rw[hn h,h];simp only[BEq.rfl,av,aa,cM,dL,dU,ite_not];split<;>rfl
 ·rw[h];rfl
def Aeo{st:List ApiValue}{out v:ApiValue}{w n:Int}:Mt ⟨st,w,n,out⟩ v=if n+1>20000 then(⟨st,w,n+1,out⟩,142)else(Zx st out v (n+1),0):=by
 unfold Mt;split;·rfl
 ·exact a8 (·,(0:Int)) (ASF ⟨st,0,n+1,out⟩ w v)
def AEn{st:List ApiValue}{out:ApiValue}{w n:Int}{kd w':Int} (hl:st.length<64):Gp ⟨st,w,n,out⟩ kd w'=if n+1>20000 then(⟨st,w,n+1,out⟩,142)else(inA st out ⟨kd,[],[],[]⟩ w' (n+1),0):=by unfold Gp;rw[ae (by simp only[];omega)];rfl
def TR.count{X:Option (ApiValue×Int×Int)}{S S':Int->JPsr}{t:ApiToken}{p:Ref14Parser} (h:TR N l X S t p) (hf:p.fail=0) (hk:t.kind≠1) (hx: ∀n,0<=n->n<=20000->(n+1>20000->∃q,Ea N (S n) t=some (q,142))/\(¬n+1>20000->Ea N (S n) t=some (S' (n+1),0))):MR N l X S' (if p.nodes+1>20000 then Ref14Parser.mk p.s p.at_ (p.nodes+1) 142 t.at_ else Ref14Parser.mk p.s p.at_ (p.nodes+1) p.fail p.where_):=by
 obtain⟨_,E,i,h1,h2,h3,h4,h5⟩:=h.ok hf;obtain⟨h6,h7⟩:=hx _ h3 h4;by_cases hc:p.nodes+1>20000;·rw[ah hc];obtain⟨q,hq⟩:=h6 hc;refine⟨h.s,h.lo,h.hi,λ_=>?_,λhz=>by cases hz⟩;rw[h5,Y4,hq,aa,ah fA]
 ·rw[ae hc];refine⟨h.s,h.lo,h.hi,λhz=>absurd hf hz,λ_=>⟨E,i,h1,h2 hk,by simp only[];omega,by simp only[];omega,?_⟩⟩;rw[h5,Y4,h7 hc,aa,ae fA,ae (by simp[hk])]
end
end Go.VM
namespace Go.VM
section
variable{N:Nat}{l:B8}
def Q9{t:ApiToken}{c:B8} (h:(t.kind==2&&t.text==c)=true):t=ApiToken.mk 2 c t.at_:=by simp only[az,bA]at h;cases t;simp only at h;rw[h.1,h.2]
def MR.after{X:Option (ApiValue×Int×Int)}{S:Int->JPsr}{S':Int->JPsr} (e: ∀n,S n=S' n){p:Ref14Parser} (h:MR N l X S p):MR N l X S' p:=by have:S=S':=funext e;rw[<-this];exact h
def AEH (hb:l.length<=1048576) (hN:l.length+100<=N) (st:List ApiValue) (out:ApiValue) (X:Option (ApiValue×Int×Int)) (rc:Ref14Parser->ApiToken->Int->Option (ApiValue×Ref14Parser)) (hrc: ∀(p:Ref14Parser) (t:ApiToken) (v:ApiValue) (w:Int),TR N l X (inA st out v w) t p->(w=0\/w=1)->(p.fail=0->∀n,Db (inA st out v w n) t=Gr t)->Ok (rc p t ((st.length+1:Nat):Int)) (VQ N l X (st++[v]) out p)) (p0:Ref14Parser): ∀(k:Nat) (t:ApiToken) (items:List ApiValue) (p:Ref14Parser) (w:Int),TR N l X (inA st out (AI1 items) w) t p->(w=0\/w=1)->(p.fail=0->∀n,Db (inA st out (AI1 items) w n) t=Gr t)->p0.at_<=p.at_->(p.fail=0->p0.fail=0)->Tx l p<=k->items.length+Tx l p<=4000000->Ok (CP N ((st.length+1:Nat):Int) rc (λj5=>some (ApiValue.mk 6 [] [] j5.2.1,j5.2.2)) k t items p) (VQ N l X st out p0)
 |0,t,items,p,w,_,_,_,_,_,h,_=>by have:=Uo (l:=l) p;omega
 | k+1,t,items,p,w,hp,hw,hfit,hle,hp0,hk,hB=>by
  rw[CP];have hpos:=Uo (l:=l) p;refine Ok.ite (λhf=>?_) (λhf=>Ok.ret ⟨hp.dead (by simpa using hf),hle,hp0⟩);have hf0:p.fail=0:=by simpa using hf
  refine Ok.join (Ok.bind (hrc p t (AI1 items) w hp hw hfit) λy14 h14=>Ok.grd (ABq fy fy) ?_);obtain⟨h14,a1,a1f⟩:=h14;refine Ok.bind (VU fy fy (h14.after (S':=inA st out (AI1 (items++[y14.1])) 5) λn=>Abh _ _ _ _ n)) λy16 h16=>?_;rw[isQ,aa];have a2:y14.2.at_<=y16.2.at_:=h16.le;have o2:y16.2.fail=0->y14.2.fail=0/\(y16.1.kind≠1->y14.2.at_<y16.2.at_):=h16.on;refine Ok.ite (λhc=>Ok.ret ⟨h16.tr.go λ_=>?_,by simp only[];omega,λhz=>hp0 hf0⟩) (λhc=>?_);·have e:=Q9 hc;rw[e];exact⟨fA,λn=>R4 (v:=AI1 (items++[y14.1])) (.inr (.inr rfl))⟩
  refine Ok.meet (λj:Ref14Parser=>MR N l X (inA st out (AI1 (items++[y14.1])) 0) j/\p.at_<=j.at_/\(j.fail=0->p.at_<j.at_)) (λj hj=>?_) (λk21 h21=>?_);·refine Ok.bind (VU fy fy hj.1) λy32 h32=>?_;have a3:=h32.le;have hl:=AAu ⟨hp.lo,hp.hi⟩ hf0 ⟨h32.tr.lo,h32.tr.hi⟩ (λe=>by have:=hj.2.2 (h32.on e).1;omega);exact AEH hb hN st out X rc hrc p0 k y32.1 _ y32.2 0 h32.tr (.inl rfl) (λ_ n=>Agf rfl) (by have:=hj.2.1;omega) (λ_=>hp0 hf0) fy fC
  ·refine Ok.meet (λb:Bool=>(b=true->y16.2.fail=0/\(y16.1.kind==2&&y16.1.text==[44])=false)/\(b=false->y16.2.fail=0->(y16.1.kind==2&&y16.1.text==[44])=true)) (λb hb'=>?_) (λk25 h25=>?_)
   ·refine Ok.ite (λhbt=>?_) (λhbf=>?_)
    ·obtain⟨g1,g2⟩:=hb'.1 hbt;rw[Kw,aa];refine h21 _ ⟨h16.tr.stop g1 fB λn _ _=>⟨_,QA (Al6 g2 hc)⟩,?_,?_⟩;·rw[Gc g1];simp only[];omega
     ·rw[Gc g1];intro hz;cases hz
    ·refine h21 _ ⟨h16.tr.go λhz=>?_,fy,λhz=>?_⟩;·have e:=Q9 (hb'.2 hbf hz);rw[e];exact⟨fA,λn=>AB4⟩
     ·have e:=Q9 (hb'.2 hbf hz);have:=(o2 hz).2 (by rw[e];simp);omega
   ·refine Ok.ite (λhz=>?_) (λhz=>h25 _ ⟨λh=>(by cases h),λ_ h=>(by rw[h]at hz;simp at hz)⟩);rw[isQ,aa];refine h25 _ ⟨λh=>⟨(by simpa using hz),(by rw[cw]at h;exact h)⟩,λh _=>(by rw[dN]at h;exact h)⟩
def AB2: ∀(ks:List B8) (xs:List ApiValue) (key:B8),ks.length=xs.length->(Q6 ks xs key).2=decide (key∈ks)
 |[],[],key,_=>by simp[Q6]
 | k::ks,x::xs,key,h=>by
  rw[Q6];by_cases hk:k=key;·simp[hk]
  ·rw[ae (by simpa using hk),AB2 ks xs key (by simpa using h)];simp[ez hk]
def AEB (hb:l.length<=1048576) (hN:l.length+100<=N) (st:List ApiValue) (out:ApiValue) (X:Option (ApiValue×Int×Int)) (rc:Ref14Parser->ApiToken->Int->Option (ApiValue×Ref14Parser)) (hrc: ∀(p:Ref14Parser) (t:ApiToken) (v:ApiValue) (w:Int),TR N l X (inA st out v w) t p->(w=0\/w=1)->(p.fail=0->∀n,Db (inA st out v w n) t=Gr t)->Ok (rc p t ((st.length+1:Nat):Int)) (VQ N l X (st++[v]) out p)) (p0:Ref14Parser): ∀(k:Nat) (t:ApiToken) (keys:List B8) (items:List ApiValue) (p:Ref14Parser) (w:Int),TR N l X (inA st out (PP keys items) w) t p->(w=2\/w=3)->(w=3->p.fail=0->(t.kind==2&&t.text==[125])=false)->p0.at_<=p.at_->(p.fail=0->p0.fail=0)->Tx l p<=k->items.length+Tx l p<=4000000->keys.length=items.length->Ok (Bo N ((st.length+1:Nat):Int) rc (λj5=>some (ApiValue.mk 7 [] j5.2.1 j5.2.2.1,j5.2.2.2)) k t keys items p) (VQ N l X st out p0)
 |0,t,keys,items,p,w,_,_,_,_,_,h,_,_=>by have:=Uo (l:=l) p;omega
 | k + 1,t,keys,items,p,w,hp,hw,hend,hle,hp0,hk,hB,hkl=>by
  rw[Bo];have hpos:=Uo (l:=l) p;refine Ok.ite (λhf=>?_) (λhf=>Ok.ret ⟨hp.dead (by simpa using hf),hle,hp0⟩);have hf0:p.fail=0:=by simpa using hf
  have hfk: ∀n,Db (inA st out (PP keys items) w n) t=(t.kind==3):=λn=>Alh hw λh=>hend h hf0;refine Ok.meet (λj:Ref14Parser=>(t.kind=3/\j=p)\/(j.fail≠0/\MR N l X (inA st out (PP keys items) w) j/\p.at_<=j.at_)) (λj10 h10=>?_) (λk11 h11=>?_)
  ·refine Ok.meet (λj:Ref14Parser=>MR N l X (inA st out (PP (keys++[t.text]) items) 4) j/\p.at_<=j.at_) (λj16 h16=>?_) (λk17 h17=>?_)
   ·refine Ok.meet (λj:ApiToken×Ref14Parser=>MR N l X (inA st out (PP (keys++[t.text]) items) 0) j.2/\p.at_<=j.2.at_/\(j.2.fail=0->p.at_<j.2.at_)) (λj24 h24=>?_) (λk25 h25=>?_)
    ·refine Ok.bind (VU fy fy h24.1) λy38 h38=>?_;refine Ok.bind (hrc y38.2 y38.1 (PP (keys++[t.text]) items) 0 h38.tr (.inl rfl) λ_ n=>Agf rfl) λy40 h40=>Ok.grd (ABq fy fy) (Ok.grd (ABq fy fy) ?_);obtain⟨h40,a1,a1f⟩:=h40;refine Ok.bind (VU fy fy (h40.after (S':=inA st out (PP (keys++[t.text]) (items++[y40.1])) 5) λn=>Abh _ _ _ _ n)) λy42 h42=>?_;rw[isQ,aa];have a0:=h24.2.1;have a2:=h38.le;have a3:=h42.le;refine Ok.ite (λhc=>Ok.ret ⟨h42.tr.go λ_=>?_,by simp only[];omega,λhz=>hp0 hf0⟩) (λhc=>?_);·have e:=Q9 hc;rw[e];exact⟨fA,λn=>R4 (v:=PP (keys++[t.text]) (items++[y40.1])) (.inr (.inr rfl))⟩
     refine Ok.meet (λj:Ref14Parser=>MR N l X (inA st out (PP (keys++[t.text]) (items++[y40.1])) 2) j/\p.at_<=j.at_/\(j.fail=0->p.at_<j.at_)) (λj hj=>?_) (λk47 h47=>?_);·refine Ok.bind (VU fy fy hj.1) λy58 h58=>?_;have a4:=h58.le;have hl:=AAu ⟨hp.lo,hp.hi⟩ hf0 ⟨h58.tr.lo,h58.tr.hi⟩ (λe=>by have:=hj.2.2 (h58.on e).1;omega);exact AEB hb hN st out X rc hrc p0 k y58.1 _ _ y58.2 2 h58.tr (.inl rfl) (λh=>by cases h) (by have:=hj.2.1;omega) (λ_=>hp0 hf0) fy fC (by simp[hkl])
     ·refine Ok.meet (λb:Bool=>(b=true->y42.2.fail=0/\(y42.1.kind==2&&y42.1.text==[44])=false)/\(b=false->y42.2.fail=0->(y42.1.kind==2&&y42.1.text==[44])=true)) (λb hb'=>?_) (λk51 h51=>?_)
      ·refine Ok.ite (λhbt=>?_) (λhbf=>?_)
       ·obtain⟨g1,g2⟩:=hb'.1 hbt;rw[Kw,aa];refine h47 _ ⟨h42.tr.stop g1 fB λn _ _=>⟨_,QA (Al6 g2 hc)⟩,?_,?_⟩;·rw[Gc g1];simp only[];omega
        ·rw[Gc g1];intro hz;cases hz
       ·refine h47 _ ⟨h42.tr.go λhz=>?_,fy,λhz=>?_⟩;·have e:=Q9 (hb'.2 hbf hz);rw[e];exact⟨fA,λn=>AB4⟩
        ·have e:=Q9 (hb'.2 hbf hz);have:=(h42.on hz).2 (by rw[e];simp);omega
      ·refine Ok.ite (λhz=>?_) (λhz=>h51 _ ⟨λh=>(by cases h),λ_ h=>(by rw[h]at hz;simp at hz)⟩);rw[isQ,aa];refine h51 _ ⟨λh=>⟨(by simpa using hz),(by rw[cw]at h;exact h)⟩,λh _=>(by rw[dN]at h;exact h)⟩
    ·refine Ok.bind (VU fy fy h16.1) λy28 h28=>?_;have a1:=h28.le;have a2:=h16.2;refine Ok.meet (λb:Bool=>(b=true->y28.2.fail=0/\(y28.1.kind==2&&y28.1.text==[58])=false)/\(b=false->y28.2.fail=0->(y28.1.kind==2&&y28.1.text==[58])=true)) (λb hb'=>?_) (λk31 h31=>?_)
     ·refine Ok.ite (λhbt=>?_) (λhbf=>?_)
      ·obtain⟨g1,g2⟩:=hb'.1 hbt;rw[Kw,aa];refine h25 _ ⟨h28.tr.stop g1 fB λn _ _=>⟨_,QA (Apj g2)⟩,?_,?_⟩;·rw[Gc g1];simp only[];omega
       ·rw[Gc g1];intro hz;cases hz
      ·refine h25 _ ⟨h28.tr.go λhz=>?_,by simp only[];omega,λhz=>?_⟩;·have e:=Q9 (hb'.2 hbf hz);rw[e];exact⟨fA,λn=>ATX⟩
       ·have e:=Q9 (hb'.2 hbf hz);have:=(h28.on hz).2 (by rw[e];simp);simp only[];omega
     ·refine Ok.ite (λhz=>?_) (λhz=>h31 _ ⟨λh=>(by cases h),λ_ h=>(by rw[h]at hz;simp at hz)⟩);rw[isQ,aa];refine h31 _ ⟨λh=>⟨(by simpa using hz),(by rw[cw]at h;exact h)⟩,λh _=>(by rw[dN]at h;exact h)⟩
   ·rw [Rq _ _ (by simp only[];omega),aa];have hth:(BN (ApiValue.mk 7 [] keys items) t.text).2=decide (t.text∈keys):=by unfold BN;rw[ah fA];exact AB2 _ _ _ hkl
    rw[hth];rcases h10 with⟨hk3,rfl⟩|⟨hd,hm,hle2⟩
    ·have et:t=ApiToken.mk 3 t.text t.at_:=by cases t;simp only at hk3;rw[hk3]
     by_cases hin:t.text∈keys;·rw[ah (by simpa using hin),Kw,aa];refine h17 _ ⟨hp.stop hf0 fB λn _ _=>⟨inA st out (PP keys items) w n,?_⟩,by rw[Gc hf0];exact br _⟩;rw[et,AOA hw,ah hin]
     ·rw[ae (by simpa using hin)];refine h17 _ ⟨hp.go λ_=>⟨by rw[hk3];decide,λn=>?_⟩,br _⟩;conv=>lhs;rw[et]
      rw[AOA hw,ae hin]
    ·refine Ok.ite (λ_=>?_) (λ_=>h17 _ ⟨hm.dead hd,hle2⟩);rw[Kw,aa,Ado hd];exact h17 _ ⟨hm.dead hd,hle2⟩
  ·refine Ok.ite (λhz=>?_) (λhz=>h11 _ (.inl ⟨by simpa using hz,rfl⟩));rw[Kw,aa];refine h11 _ (.inr ⟨by rw[Gc hf0];simp,hp.stop hf0 fB λn _ _=>⟨_,QA (by rw[hfk];simpa using hz)⟩,by rw[Gc hf0];exact br _⟩)
end
end Go.VM
namespace Go.VM
section
variable{N:Nat}{l:B8}
def AiJ (N:Nat) (l:B8) (D:Nat):Prop:= ∀(p:Ref14Parser) (t:ApiToken) (st:List ApiValue) (out:ApiValue) (w:Int) (X:Option (ApiValue×Int×Int)),TR N l X (λn=>⟨st,w,n,out⟩) t p->(w=0\/w=1)->(p.fail=0-> ∀n,Db ⟨st,w,n,out⟩ t=Gr t)->st.length<=64->2 * (64-st.length)+2<=D->Ok (BI N D p t (st.length:Int)) (VQ N l X st out p)
def Ann (N:Nat) (l:B8) (D:Nat):Prop:= ∀(p:Ref14Parser) (st:List ApiValue) (out:ApiValue) (X:Option (ApiValue×Int×Int)),MR N l X (inA st out (AI1 []) 1) p->st.length<64->2 * (63-st.length)+3<=D->Ok (D9 N D p ((st.length+1:Nat):Int)) (VQ N l X st out p)
def AnP (N:Nat) (l:B8) (D:Nat):Prop:= ∀(p:Ref14Parser) (st:List ApiValue) (out:ApiValue) (X:Option (ApiValue×Int×Int)),MR N l X (inA st out (PP [] []) 3) p->st.length<64->2 * (63-st.length)+3<=D->Ok (Df N D p ((st.length+1:Nat):Int)) (VQ N l X st out p)
def Aej (hb:l.length<=1048576) (hN:l.length+100<=N){D:Nat} (hv:AiJ N l D):Ann N l (D+1):=by
 intro p st out X hp hst hD;rw[D9];refine Ok.bind (VU fy fy hp) λy1 h1=>?_;rw[isQ,aa];refine Ok.ite (λhc=>Ok.ret ⟨h1.tr.go λ_=>?_,h1.le,λhz=>(h1.on hz).1⟩) (λhc=>?_);·have e:=Q9 hc;rw[e];exact⟨fA,λn=>R4 (v:=AI1 []) (.inl rfl)⟩
 ·have:=ANF (l:=l) y1.2;refine Ok.join (AEH hb hN st out X (BI N D) (λq t v w hq hw hfit=>?_) p N y1.1 [] y1.2 1 h1.tr (.inr rfl) (λ_ n=>fits1 hc) h1.le (λhz=>(h1.on hz).1) fy fC);have:=hv q t (st++[v]) out w X hq hw hfit fC fC;simpa using this
def AcT (hb:l.length<=1048576) (hN:l.length+100<=N){D:Nat} (hv:AiJ N l D):AnP N l (D+1):=by
 intro p st out X hp hst hD;rw[Df];refine Ok.bind (VU fy fy hp) λy1 h1=>?_;rw[isQ,aa];refine Ok.ite (λhc=>Ok.ret ⟨h1.tr.go λ_=>?_,h1.le,λhz=>(h1.on hz).1⟩) (λhc=>?_);·have e:=Q9 hc;rw[e];exact⟨fA,λn=>R4 (v:=PP [] []) (.inr (.inl rfl))⟩
 ·have:=ANF (l:=l) y1.2;refine Ok.join (AEB hb hN st out X (BI N D) (λq t v w hq hw hfit=>?_) p N y1.1 [] [] y1.2 3 h1.tr (.inr rfl) (λ_ _=>hc) h1.le (λhz=>(h1.on hz).1) fy fC rfl);have:=hv q t (st++[v]) out w X hq hw hfit fC fC;simpa using this
def Apz (s:B8) (h:isWord s=true):Nw N s=some (Ud s):=by unfold isWord at h;simp only[bE,bA]at h;rcases h with rfl|rfl|rfl<;>rfl
theorem WW{s:B8}{a n w i e:Int}:Xb (Ref14Parser.mk s a n 0 w) i e=Ref14Parser.mk s a n e i:=rfl
theorem Aee{s:B8}{a n w i e:Int}:Xb (Ref14Parser.mk s a n 144 w) i e=Ref14Parser.mk s a n 144 w:=rfl
def AXx{t:ApiToken} (h:t.kind=3\/t.kind=4\/t.kind=5):Gr t=true:=by unfold Gr;rcases h with h|h|h<;>simp[h]
def MR.vq{X:Option (ApiValue×Int×Int)}{st:List ApiValue}{out v:ApiValue}{p q:Ref14Parser} (h:MR N l X (Zx st out v) q) (hf:p.fail=0) (ha:q.at_=p.at_):VQ N l X st out p (v,q):=⟨h,by rw[ha];exact br _,λ_=>hf⟩
def AhA (hb:l.length<=1048576) (hN:l.length+100<=N){D:Nat} (ha:Ann N l D) (ho:AnP N l D):AiJ N l (D+1):=by
 intro p t st out w X h hw hfit hst hD;rw[BI];by_cases hf:p.fail=0;rotate_left
 ·refine Ok.meet (λ_:Bool=>True) (λb _=>?_) (λk2 h2=>?_);·rw[ah (by simpa using hf)];exact Ok.ret ⟨h.dead hf,br _,λh=>h⟩
  ·simp only[isQ,aa];refine Ok.ite (λ_=>h2 _ trivial) (λ_=>Ok.ite (λ_=>h2 _ trivial) (λ_=>Ok.ite (λ_=>h2 _ trivial) (λ_=>Ok.ite (λ_=>h2 _ trivial) (λ_=>h2 _ trivial))))
 ·obtain ⟨htk,E,i,g1,g2,g3,g4,g5⟩:=h.ok hf;have hfit:=hfit hf;have hw3:w=0\/w=1:=hw;have hwr:wr .i64 (p.nodes+1)=p.nodes+1:=AO fy;have hps:p=Ref14Parser.mk p.s p.at_ p.nodes 0 p.where_:=by cases p;simp only at hf;rw[hf]
  have plain: ∀v,(t.kind=3\/t.kind=4\/t.kind=5)->(t.kind=4->Dz N t.text=some (Ym N t.text)/\(Ym N t.text).2=0)->v=ARW N t->MR N l X (Zx st out v) (if p.nodes+1>20000 then Ref14Parser.mk p.s p.at_ (p.nodes+1) 142 t.at_ else Ref14Parser.mk p.s p.at_ (p.nodes+1) p.fail p.where_):=by intro v hk hn hv;refine h.count hf (by rcases hk with e|e|e<;>rw[e]<;>decide) λn _ _=>?_;have e:=ABG (N:=N) (n:=n) hw ((hfit n).trans (AXx hk)) hk λe=>(hn e).1;rw[ae (λe=>e.2 (hn e.1).2),Aeo,<-hv]at e;refine⟨λhc=>⟨_,by rw[e,ah hc]⟩,λhc=>by rw[e,ae hc]⟩
  rw[hf]at plain;cases htk with
  | fin pos=>simp[AA,isQ,Kw,hf];refine Ok.ret (MR.vq (h.stop hf fB λn _ _=>⟨_,QA ((hfit n).trans rfl)⟩) hf (by rw[Gc hf]))
  | pun c pos hc=>
   by_cases h91:c=91
   ·subst h91;by_cases h64:st.length=64;·simp[AA,isQ,Kw,hf,h64];refine Ok.ret (MR.vq (h.stop hf fB λn _ _=>⟨⟨st,w,n,out⟩,?_⟩) hf (by rw[Gc hf]));rw[UI 91 (.inl rfl) ((hfit n).trans rfl),ah rfl];simp[Gp,h64]
    ·have e64: ¬(st.length:Int)=64:=fy;have ew:wr .i64 ((st.length:Int)+1)=(st.length:Int)+1:=AO fy;have ec:((st.length+1:Nat):Int)=(st.length:Int)+1:=fy;have hm:MR N l X (inA st out (AI1 []) 1) (if p.nodes+1>20000 then Ref14Parser.mk p.s p.at_ (p.nodes+1) 142 pos else Ref14Parser.mk p.s p.at_ (p.nodes+1) p.fail p.where_):=by refine h.count hf fA λn _ _=>?_;have e:=UI (N:=N) (st:=st) (out:=out) (w:=w) (n:=n) (p:=pos) 91 (.inl rfl) ((hfit n).trans rfl);rw[ah rfl,AEn fy]at e;exact⟨λhc=>⟨_,by rw[e,ah hc]⟩,λhc=>by rw[e,ae hc];rfl⟩
     rw[hf]at hm;have fin:=ha _ st out X hm fy fy;rw[ec]at fin;simp[AA,isQ,Kw,hf,e64,ew,hwr,WW];by_cases hc:p.nodes+1>20000;·rw[ah hc]at fin⊢;obtain⟨y,e,hy⟩:=fin;rw[e];exact Ok.ret ⟨hy.1,hy.2.1,λ_=>hf⟩
     ·rw[ae hc]at fin⊢;obtain⟨y,e,hy⟩:=fin;rw[e];exact Ok.ret ⟨hy.1,hy.2.1,λ_=>hf⟩
   ·by_cases h123:c=123
    ·subst h123;by_cases h64:st.length=64;·simp[AA,isQ,Kw,hf,h64];refine Ok.ret (MR.vq (h.stop hf fB λn _ _=>⟨⟨st,w,n,out⟩,?_⟩) hf (by rw[Gc hf]));rw[UI 123 (.inr rfl) ((hfit n).trans rfl),ae fB];simp[Gp,h64]
     ·have e64: ¬(st.length:Int)=64:=fy;have ew:wr .i64 ((st.length:Int)+1)=(st.length:Int)+1:=AO fy;have ec:((st.length+1:Nat):Int)=(st.length:Int)+1:=fy;have hm:MR N l X (inA st out (PP [] []) 3) (if p.nodes+1>20000 then Ref14Parser.mk p.s p.at_ (p.nodes+1) 142 pos else Ref14Parser.mk p.s p.at_ (p.nodes+1) p.fail p.where_):=by refine h.count hf fA λn _ _=>?_;have e:=UI (N:=N) (st:=st) (out:=out) (w:=w) (n:=n) (p:=pos) 123 (.inr rfl) ((hfit n).trans rfl);rw[ae fB,AEn fy]at e;exact⟨λhc=>⟨_,by rw[e,ah hc]⟩,λhc=>by rw[e,ae hc];rfl⟩
      rw[hf]at hm;have fin:=ho _ st out X hm fy fy;rw[ec]at fin;simp[AA,isQ,Kw,hf,e64,ew,hwr,WW];by_cases hc:p.nodes+1>20000;·rw[ah hc]at fin⊢;obtain⟨y,e,hy⟩:=fin;rw[e];exact Ok.ret ⟨hy.1,hy.2.1,λ_=>hf⟩
      ·rw[ae hc]at fin⊢;obtain⟨y,e,hy⟩:=fin;rw[e];exact Ok.ret ⟨hy.1,hy.2.1,λ_=>hf⟩
    ·have ho:Gr (ApiToken.mk 2 [c] pos)=false:=by simp[Gr,h91,h123]
     simp[AA,isQ,Kw,hf,h91,h123];refine Ok.ret (MR.vq (h.stop hf fB λn _ _=>⟨_,QA ((hfit n).trans ho)⟩) hf (by rw[Gc hf]))
  | txt s pos hs=>
   have hm:=plain _ (.inl rfl) (λe=>by cases e) rfl;simp[AA,isQ,Kw,hf,hwr,WW];by_cases hc:p.nodes+1>20000;·rw[ah hc]at hm⊢;exact Ok.ret (MR.vq hm hf rfl)
   ·rw[ae hc]at hm⊢;exact Ok.ret (MR.vq hm hf rfl)
  | num s pos h0 hn hl=>
   obtain⟨n1,n2,n3⟩:=Aca (N:=N) h0 hn fy fy;by_cases hz:(Ym N s).2=0
   ·have hm:=plain _ (.inr (.inl rfl)) (λ_=>⟨n1,hz⟩) rfl;simp[AA,isQ,Kw,hf,n2,hz,hwr,WW];by_cases hc:p.nodes+1>20000;·rw[ah hc]at hm⊢;exact Ok.ret (MR.vq hm hf rfl)
    ·rw[ae hc]at hm⊢;exact Ok.ret (MR.vq hm hf rfl)
   ·have h144:(Ym N s).2=144:=by rcases n3 with e|e;exact absurd e hz;rw[e]
    have hm: ∀(q:Int) (v:ApiValue),MR N l X (Zx st out v) (Ref14Parser.mk p.s p.at_ q 144 pos):=λq v=>by refine⟨h.s,h.lo,h.hi,λ_=>?_,λhz=>by cases hz⟩;have:=(h.stop (S':=Zx st out v) hf (e:=144) fB λn _ _=>⟨⟨st,w,n,out⟩,by rw[ABG (N:=N) hw ((hfit n).trans rfl) (.inr (.inl rfl)) λ_=>n1,ah ⟨rfl,hz⟩]⟩).bad (by rw[Gc hf];simp);rw[Gc hf]at this;exact this
    simp[AA,isQ,Kw,hf,n2,h144,Gc hf,hwr,Aee];exact Ok.ret (MR.vq (hm _ _) hf rfl)
  | wrd s pos hs=>
   have hm:=plain _ (.inr (.inr rfl)) (λe=>by cases e) rfl;simp[AA,isQ,Kw,hf,Apz s hs,hwr,WW];by_cases hc:p.nodes+1>20000;·rw[ah hc]at hm⊢;exact Ok.ret (MR.vq hm hf rfl)
   ·rw[ae hc]at hm⊢;exact Ok.ret (MR.vq hm hf rfl)
def AEl (hb:l.length<=1048576) (hN:l.length+100<=N): ∀D,AiJ N l D/\Ann N l D/\AnP N l D |0=>⟨λp t st out w X _ _ _ _ h=>by omega,λp st out X _ _ h=>by omega,λp st out X _ _ h=>by omega⟩| D+1=>by obtain⟨h1,h2,h3⟩:=AEl hb hN D;exact⟨AhA hb hN h2 h3,Aej hb hN h1,AcT hb hN h1⟩
def AUB (hN:l.length+200<=N) (hN2:N<=1099511627776): ∃r,KG N l=some r/\F8 N l=some r:=by
 unfold KG F8;rw[ae (show¬N>1099511627776 by omega)];by_cases hb:l.length>1048576;·rw[ah fC,ah hb];exact⟨_,rfl,rfl⟩
 ·rw [ae fC,ae hb];have h0:MR N l (Le N l N 0 ⟨[],0,0,F4⟩) (λn=>⟨[],0,n,F4⟩) (Ref14Parser.mk l 0 0 0 0):=⟨rfl,br _,by simp only[];omega,λh=>absurd rfl h,λ_=>⟨N,0,rfl,fy,br _,fA,rfl⟩⟩;have key:Ok ((BA N (Ref14Parser.mk l 0 0 0 0)).bind λy1=>(BI N N y1.2 y1.1 0).bind λy3=>AB (λj5:Ref14Parser=>if(j5.fail !=0)=true then some (ApiValue.mk 0 [] [] [],j5.where_,j5.fail)else some (y3.1,(l.length:Int),0)) λk6=>(BA N y3.2).bind λy9=>AB (λj11:Bool=>if j11=true then (BC N y9.2 y9.1.at_ 140).bind λy15=>k6 y15 else k6 y9.2) λk12=>if(y9.2.fail==0)=true then k12 (y9.1.kind !=1)else k12 false) (λr=>Le N l N 0 ⟨[],0,0,F4⟩=some r):=by
   refine Ok.bind (VU fy fy h0) λy1 h1=>?_;refine Ok.bind ((AEl fy fy N).1 y1.2 y1.1 [] F4 0 _ h1.tr (.inl rfl) (λ_ n=>Agf rfl) fA fC) λy3 h3=>?_;refine Ok.bind (VU fy fy h3.1) λy9 h9=>?_;simp only[AA];by_cases hf:y9.2.fail=0
   ·rw[ah (by simpa using hf)];obtain⟨_,E,i,g1,g2,g3,g4,g5⟩:=h9.tr.ok hf;have hfit:Db (Zx [] F4 y3.1 y9.2.nodes) y9.1=(y9.1.kind==1):=by simp[Zx,H9,Db]
    by_cases hk:y9.1.kind=1;·rw[ae (by simpa using hk),ae (by simpa using hf)];refine Ok.ret ?_;rw[g5,Y4];unfold Ea;rw[ae (by rw[hfit];simpa using hk),hk];simp[Zx,H9]
    ·rw[ah (by simpa using hk),Kw,aa,Gc hf,ah fA];refine Ok.ret ?_;rw[g5,Y4,QA (by rw[hfit];simpa using hk),aa,ah fA];rfl
   ·rw[ae (by simpa using hf),ae fA,ah (by simpa using hf)];refine Ok.ret ?_;rw[(h9.tr.bad hf).1];rfl
  obtain⟨r,e1,e2⟩:=key;exact⟨r,e1,e2⟩
end
end Go.VM
namespace Go.VM
def okD.mono{d:Nat}{v:ApiValue} (h:okD d v): ∀e,d<=e->okD e v:=by induction h with | mk v hk hi h ih=>intro e he;obtain⟨e',rfl⟩: ∃e',e=e'+1:=⟨e-1,fy⟩;exact .mk v hk hi λx hx=>ih x hx e' fy
def OC (kind:Int) (text:B8){d:Nat} (h:1<=d):okD d (ApiValue.mk kind text [] []):=by obtain⟨d,rfl⟩: ∃e,d=e+1:=⟨d-1,fy⟩;exact .mk _ fA fA fA
structure lvD (k i:Nat) (v:ApiValue):Prop where
  keys:v.keys.length+k<=2199023255552
  items:v.items.length+k<=2199023255552
  sub: ∀x,x∈v.items->okD (64-i) x
structure LS (k:Nat) (p:JPsr):Prop where
  len:p.stack.length<=64
  out:okD 65 p.out
  lv: ∀i v,p.stack[i]?=some v->lvD k i v
  kk:k<=2199023255552
def lvD.less{k i:Nat}{v:ApiValue} (h:lvD (k+1) i v):lvD k i v:=⟨by have:=h.keys;omega,by have:=h.items;omega,h.sub⟩
def AJA{k:Nat}{st:List ApiValue}{v:ApiValue} (h: ∀i x,(st++[v])[i]?=some x->lvD k i x):(∀i x,st[i]?=some x->lvD k i x)/\lvD k st.length v:=by
 refine⟨λi x hx=>h i x ?_,h st.length v fA⟩;have hi:i<st.length:=by
  rcases aS i st.length with h|h;·exact h
  ·rw[ff h]at hx;cases hx
 rw[dz hi];exact hx
def AR4{k:Nat}{st:List ApiValue}{v:ApiValue} (h: ∀i x,st[i]?=some x->lvD k i x) (hv:lvD k st.length v): ∀i x,(st++[v])[i]?=some x->lvD k i x:=by
 intro i x hx;rcases Nat.lt_trichotomy i st.length with hi|hi|hi;·rw[dz hi]at hx;exact h i x hx
 ·subst hi;rw[dr (aw _)]at hx;simp at hx;subst hx;exact hv
 ·rw[ff fC]at hx;cases hx
def last_cases (l:List ApiValue):l=[]\/∃st v,l=st++[v]:=by
 rcases cF l with h|⟨a,b,h⟩;·exact .inl h
 ·exact .inr ⟨a,b,by simpa using h⟩
def LS.less{k:Nat}{p:JPsr} (h:LS (k+1) p):LS k p:=⟨h.len,h.out,λi v hv=>(h.lv i v hv).less,by have:=h.kk;omega⟩
def LS.done{k:Nat}{p:JPsr}{v:ApiValue} (h:LS (k+1) p) (hv:okD (65-p.stack.length) v):LS k (H9 p v):=by
 unfold H9;rcases last_cases p.stack with hs|⟨st,w,hs⟩;·rw[hs]at hv;simp only[hs,eM];exact⟨fA,hv,fA,by have:=h.kk;omega⟩
 ·have hl:=h.len;have hlv:=h.lv;rw[hs]at hv hl hlv;simp only[hs,bO,bJ,cr,cn,bX];simp only[an,ag,ap]at hv hl;obtain⟨h1,h2⟩:=AJA hlv;refine⟨by simpa using hl,h.out,AR4 (λi x hx=>(h1 i x hx).less) ⟨?_,?_,?_⟩,by have:=h.kk;omega⟩;·have:=h2.keys;simp only[];omega
  ·have:=h2.items;simp only[an,ag,ap];omega
  ·intro x hx;simp only[aX,bv]at hx;rcases hx with hx|rfl;·exact h2.sub x hx
   ·exact hv.mono _ fy
def LS.nodes{k:Nat}{p:JPsr} (h:LS k p) (n w:Int):LS k {p with nodes:=n,want:=w}:=⟨h.len,h.out,h.lv,h.kk⟩
def LS.put{k:Nat}{p:JPsr}{v:ApiValue} (h:LS (k+1) p) (hv:okD (65-p.stack.length) v) (h0:(Mt p v).2=0):LS k (Mt p v).1:=by
 unfold Mt at h0⊢;split;·rename_i hc;rw[ah hc]at h0;cases h0
 ·exact(h.nodes _ p.want).done hv
def LS.opn{k:Nat}{p:JPsr}{kd w:Int} (h:LS (k+1) p) (h0:(Gp p kd w).2=0):LS k (Gp p kd w).1:=by
 unfold Gp at h0⊢;split;·rename_i hc;rw[ah hc]at h0;cases h0
 ·rename_i hc;rw[ae hc]at h0;split;·rename_i hc;rw[ah hc]at h0;cases h0
  ·exact⟨by simp only[an,ag,ap];omega,h.out,AR4 (λi x hx=>(h.lv i x hx).less) ⟨by have:=h.kk;simp;omega,by have:=h.kk;simp;omega,fA⟩,by have:=h.kk;omega⟩
def LS.take{N:Nat}{k:Nat}{p:JPsr}{t:ApiToken}{q:JPsr×Int} (h:LS (k+1) p) (hq:Ea N p t=some q) (h0:q.2=0):LS k q.1:=by
 have hl:=h.len;have pl: ∀kind text,okD (65-p.stack.length) (ApiValue.mk kind text [] []):=λ_ _=>OC _ _ fy;unfold Ea at hq;split at hq;·cases hq;cases h0
 ·split at hq
  ·unfold Pi at hq;split at hq;·cases hq;exact h.opn h0
   ·split at hq;·cases hq;exact h.opn h0
    ·split at hq;·cases hq;exact h.less.nodes _ _
     ·rcases last_cases p.stack with hs|⟨st,w,hs⟩;·simp[hs]at hq
      ·have hlv:=h.lv;rw[hs]at hlv hl;simp only[hs,bO,bJ,cr,cn,bX]at hq;split at hq;·cases hq;exact⟨hl,h.out,λi v hv=>(hlv i v hv).less,h.less.kk⟩
       ·cases hq;obtain⟨h1,h2⟩:=AJA hlv;simp only[an,ag,ap]at hl;refine LS.done ⟨by simp only[];omega,h.out,h1,h.kk⟩ ?_;have e:65-st.length=(64-st.length)+1:=fy;simp only[];rw[e];exact .mk _ (by have:=h2.keys;omega) (by have:=h2.items;omega) h2.sub
  ·split at hq
   ·unfold WA at hq;rcases last_cases p.stack with hs|⟨st,w,hs⟩;·simp[hs]at hq
    ·have hlv:=h.lv;rw[hs]at hlv hl;simp only[hs,bO,bJ,cr,cn,bX]at hq;split at hq;·cases hq;cases h0
     ·cases hq;obtain⟨h1,h2⟩:=AJA hlv;exact⟨by simpa using hl,h.out,AR4 (λi x hx=>(h1 i x hx).less) ⟨by have:=h2.keys;simp only[an,ag,ap];omega,by have:=h2.items;simp only[];omega,h2.sub⟩,h.less.kk⟩
   ·split at hq;·cases hq;exact h.less
    ·unfold Rf at hq;split at hq
     ·cases hy:Dz N t.text with
      |none=>rw[hy]at hq;cases hq
      | some y=>
       rw[hy,aa]at hq;split at hq;·cases hq;cases h0
       ·cases hq;exact h.put (pl _ _) h0
     ·split at hq;·cases hq;exact h.put (pl _ _) h0
      ·cases hq;exact h.put (pl _ _) h0
def ACV{N:Nat}{s:B8}: ∀(k:Nat) (i:Int) (p:JPsr) (r:ApiValue×Int×Int),LS k p->Le N s k i p=some r->okD 65 r.1
 |0,i,p,r,_,h=>by cases h
 | k+1,i,p,r,hp,h=>by
  rw[Le]at h;cases hy:LH N s i with
  |none=>rw[hy]at h;cases h
  | some y=>
   rw[hy,aa]at h;split at h;·cases h;exact OC _ _ fy
   ·cases hq:Ea N p y.1 with
    |none=>rw[hq]at h;cases h
    | some q=>
     rw[hq,aa]at h;split at h;·cases h;exact OC _ _ fy
     ·rename_i h0;have hq0:q.2=0:=by simpa using h0
      have hl:=hp.take hq hq0;split at h;·cases h;exact hl.out
      ·exact ACV k y.2.1 q.1 r hl h
def AOm{N:Nat}{s:B8}{r:ApiValue×Int×Int} (h:F8 N s=some r):okD 65 r.1:=by
 unfold F8 at h;split at h;·cases h
 ·split at h;·cases h;exact OC _ _ fy
  ·exact ACV N 0 _ r ⟨fA,OC _ _ fy,fA,fy⟩ h
end Go.VM
namespace Go.VM
section
variable{N:Nat}
def ctB:B8:=[99,111,110,116,101,110,116,45,116,121,112,101]
def ANU (a b:B8) (ha:a.length<=1000000) (hb:b.length<=1000000) (hN:20000<=N): ∃r,Nz N a b=some r/\OJ N a b=some r:=by
 unfold Nz OJ;rw[AEK a ha hN,AEK b hb hN,ATC a ha hN,ATC b hb hN];simp only[aa];cases (Qs N a).2==0;·exact⟨_,rfl,rfl⟩
 ·cases (Qs N b).2==0<;>exact⟨_,rfl,rfl⟩
def Ajo (v:ApiValue):(AMh N v).1.iD.length<=1000000:=by
 unfold AMh;split;·simp[AMW]
 ·split;·simp[AMW]
  ·dsimp only;split;·simp[AMW]
   ·have:=QI (BN v [105,100]).1.text;have h2:(Gy (I4 (BN v [105,100]).1.text).1).length<=(I4 (BN v [105,100]).1.text).1.method.length+(I4 (BN v [105,100]).1.text).1.iD.length+10:=by unfold Gy;simp;omega
    simp only;omega
def AaL (b:B8) (hb:b.length<=10000) (d:ApiDID) (hd:d.method.length<=500000/\d.iD.length<=400000) (hN:100000<=N) (hN2:N<=1099511627776):∃v e,okD 65 v/\okT v/\((F8 N b).bind λy11=>if(y11.2.2 !=0)=true then some ((ApiValue.mk 0 [] [] []),y11.2.2)else (Kn N y11.1).bind λy13=>if(y13.2 !=0)=true then some ((ApiValue.mk 0 [] [] []),y13.2)else (DK N d).bind λy15=>(Nz N y13.1.iD y15).bind λy17=>if y17=true then some (y11.1,0)else some ((ApiValue.mk 0 [] [] []),280))=some (v,e)/\((KG N b).bind λy11=>if(y11.2.2 !=0)=true then some ((ApiValue.mk 0 [] [] []),y11.2.2)else (Lb N y11.1).bind λy13=>if(y13.2 !=0)=true then some ((ApiValue.mk 0 [] [] []),y13.2)else (Cm N d).bind λy15=>(OJ N y13.1.iD y15).bind λy17=>if y17=true then some (y11.1,0)else some ((ApiValue.mk 0 [] [] []),280))=some (v,e):=by
 obtain⟨r,e1,e2⟩:=AUB (N:=N) (l:=b) fy hN2;obtain⟨r',e1',hok,_⟩:=AGm (N:=N) (l:=b) hb fy;rw[e1]at e1';cases e1';have hdp:=AOm e2;have z:okD 65 (ApiValue.mk 0 [] [] [])/\okT (ApiValue.mk 0 [] [] []):=⟨OC 0 [] fB,Ra⟩;rw[e1,e2];simp only[aa];cases h1:r.2.2 !=0
 ·rw[ae fB,ae fB,AiZ _ hok fy,Ah2 _ hok fy];simp only[aa];cases h2:(AMh N r.1).2 !=0
  ·rw[ae fB,ae fB,QK d fy,QM d fy];simp only[aa];have hl:(Gy d).length<=1000000:=by unfold Gy;simp;omega
   obtain⟨s,a1,a2⟩:=ANU (N:=N) (AMh N r.1).1.iD (Gy d) (Ajo _) hl fy;rw[a1,a2];simp only[aa];cases s;·exact⟨_,_,z.1,z.2,rfl,rfl⟩
   ·exact⟨_,_,hdp,hok,rfl,rfl⟩
  ·exact⟨_,_,z.1,z.2,rfl,rfl⟩
 ·exact⟨_,_,z.1,z.2,rfl,rfl⟩
def AZM (r:ApiResponse) (hr:hdB r.head) (hb:r.body.length<=10000) (d:ApiDID) (hd:d.method.length<=500000/\d.iD.length<=400000) (hN:3000000<=N) (hN2:N<=1099511627776):∃v e,Jp N r d=some (v,e)/\QF N r d=some (v,e)/\okD 65 v/\okT v:=by
 obtain⟨v,e,z1,z2,b1,b2⟩:=AaL r.body hb d hd (N:=N) fy hN2;have z:okD 65 (ApiValue.mk 0 [] [] [])/\okT (ApiValue.mk 0 [] [] []):=⟨OC 0 [] fB,Ra⟩;have hg:=Ac6 hr ctB;obtain⟨m,e',m1,m2,m3⟩:=ATQ (N:=N) (l:=(ASx r.head ctB).1) fy fy;have m4:okM 10000000 m:=⟨m3.1,by have:=m3.2.1;omega,λf hf=>by have:=m3.2.2.1 f hf;omega,by have:=m3.2.2.2;omega,by have:=m3.2.2.2;omega⟩;unfold Jp QF OW OV;dsimp only[AA];cases h1:r.head.status==200
 ·cases r.head.status==404
  ·cases r.head.status==410;·exact⟨⟨0,[],[],[]⟩,260,fA,fA,z⟩
   ·exact⟨⟨0,[],[],[]⟩,261,fA,fA,z⟩
  ·exact⟨⟨0,[],[],[]⟩,261,fA,fA,z⟩
 ·simp only[av,aa];rw[show([99,111,110,116,101,110,116,45,116,121,112,101]:B8)=ctB from rfl,AjE hr ctB fB,APZ hr ctB fB,aa,aa,m1,m2,aa,aa];dsimp only;rw[ae (show¬((0:Int) !=0)=true by decide)];cases (ASx r.head ctB).2;·exact⟨_,_,rfl,rfl,z⟩
  ·rw[ah rfl,ah rfl];cases h4:e' !=0
   ·rw[ae fB,ae fB,Amt m4,AnL m4,aa,aa];cases ASk m ANe ABE;·exact⟨_,_,rfl,rfl,z⟩
    ·exact⟨v,e,b1,b2,z1,z2⟩
   ·exact⟨_,_,rfl,rfl,z⟩
end
end Go.VM
namespace Go.VM
section
variable{N:Nat}
def Qw (d:MadeDice):Prop:= ∀a,a∈d.l->0<=a/\a<=255
def Xn{d:MadeDice} (hd:Qw d) (hl:d.l.length<=1000){n:Nat} (h1:1<=n) (h2:n<=1000):Ok (Jy N d (n:Int)) λr=>(0<=r.1/\r.1<n)/\Qw r.2/\r.2.l.length<=1000:=by
 unfold Jy;have hz:Ok (some ((0:Int),d)) λr=>(0<=r.1/\r.1<n)/\Qw r.2/\r.2.l.length<=1000:=.ret ⟨⟨br _,by dsimp only;omega⟩,hd,hl⟩;dsimp only[AA];cases hq:d.l with
 |nil=>exact hz
 | cons a t=>
  rw[hq]at hl;simp only[ag]at hl;obtain⟨a1,a2⟩:=hd a (by rw[hq];simp);rw[ae fC];refine Ok.ite (λ_=>hz) λ_=>?_;have e1:sub (a::t) 1 ((a::t).length:Int)=some t:=by rw[show(1:Int)=((1:Nat):Int)from rfl,BB _ 1 _ fA (aw _)];simp
  rw[show idx (a::t) 0=some a from rfl,aa,e1,aa,AO fy];refine .grd fy (.ret ⟨⟨?_,?_⟩,λb hb=>hd b (by rw[hq];simp[hb]),by dsimp only;omega⟩);·exact Int.tmod_nonneg _ a1
  ·exact Int.tmod_lt_of_pos _ fy
def TS{d:MadeDice} (hd:Qw d) (hl:d.l.length<=1000){l:List B8} (h1:1<=l.length) (h2:l.length<=1000) (h3: ∀s,s∈l->s.length<=30):Ok (En N d l) λr=>r.1.length<=30/\Qw r.2/\r.2.l.length<=1000:=by unfold En;refine .bind (Xn hd hl h1 h2) λy ⟨⟨y1,y2⟩,y3,y4⟩=>?_;refine .bind (Ok.idx y1 y2) λx AQ=>.ret ⟨h3 x (List.mem_of_getElem? AQ),y3,y4⟩
def okS{α:Type}{n:Nat}{x:Option α}{P:α->Prop} (h:n<=1000000) (AQ:Ok x P):Ok (grd (AL n) x) P:=by rw[BS fy];exact AQ
def Ag1{d:MadeDice} (hd:Qw d) (hl:d.l.length<=1000):Ok (RG N d) λr=>r.1.length<=1000/\Qw r.2/\r.2.l.length<=1000:=by
 unfold RG Ul;refine .bind (Q:=λr=>r.1.length<=30/\Qw r.2/\r.2.l.length<=1000) ?_ λy ⟨y1,y2,y3⟩=>?_;·refine .letL (.bind (TS hd hl fB fB fB) λr hr=>.ret hr)
 refine .bind (Xn y2 y3 (n:=6) fB fB) λz ⟨_,z1,z2⟩=>?_;refine .meet (λ_=>True) (λj _=>?_) λk' hk=>.ite (λ_=>hk _ trivial) λ_=>hk _ trivial;refine .ite (λ_=>?_) λ_=>.ite (λ_=>?_) λ_=>.ite (λ_=>?_) λ_=>?_;·refine .letL (.bind (TS z1 z2 fB fB fB) λa ⟨a1,a2,a3⟩=>?_);refine .letL (.bind (TS a2 a3 fB fB fB) λb ⟨b1,b2,b3⟩=>?_);refine okS fy (okS fC ?_);refine .letL (.bind (TS b2 b3 fB fB fB) λc ⟨c1,c2,c3⟩=>?_);exact okS fC (.ret ⟨fC,c2,c3⟩)
 ·refine .letL (.bind (TS z1 z2 fB fB fB) λa ⟨a1,a2,a3⟩=>?_);refine okS fC (okS fC ?_);refine .letL (.bind (TS a2 a3 fB fB fB) λc ⟨c1,c2,c3⟩=>?_);exact okS fC (.ret ⟨fC,c2,c3⟩)
 ·refine okS fC ?_;refine .letL (.bind (TS z1 z2 fB fB fB) λa ⟨a1,a2,a3⟩=>?_);exact okS fC (.ret ⟨fC,a2,a3⟩)
 ·refine .meet (λj=>j.length<=30) (λj hj=>?_) λk' hk=>.ite (λ_=>hk _ fB) λ_=>hk _ y1;refine okS fC ?_;refine .letL (.bind (TS z1 z2 fB fB fB) λa ⟨a1,a2,a3⟩=>?_);exact okS fC (.ret ⟨fC,a2,a3⟩)
end
end Go.VM
namespace Go.VM
section
variable{N:Nat}
theorem AB7 (k:Unit->Option Bool){P:Bool->Prop} (hf:P false): ∀xs:List ApiField,(∀f,f∈xs->V8 f)->((∀f,f∈xs->f.name.length+f.value.length<=600)->Ok (k ()) P)->Ok (IP N k xs) P
 |[],_,hk=>by rw[IP];exact hk fA
 | f::xs,ho,hk=>by
  obtain⟨h1,h2⟩:=ho f (.head _);have hr:reachBytes=140737488351232:=rfl;rw[IP,AO fy];refine .ite (λ_=>.ret hf) λh=>AB7 k hf xs (λg hg=>ho g (.tail _ hg)) λhx=>hk λg hg=>?_;rcases aL.1 hg with rfl|hg;·simp at h;omega
  ·exact hx g hg
def Ao9 (h:ApiHead) (ho:Ye h):Ok (RU N h) λb=>b=true->h.fields.length<=80/\∀f,f∈h.fields->f.name.length+f.value.length<=600:=by
 unfold RU;refine .ite (λ_=>.ret (by intro h;cases h)) λhl=>?_;have hl':h.fields.length<=80:=by simp at hl;omega
 rw[AA,BS fy];exact AB7 _ (by intro h;cases h) _ ho.2.2.2 λhx=>.ret λ_=>⟨hl',hx⟩
end
end Go.VM
