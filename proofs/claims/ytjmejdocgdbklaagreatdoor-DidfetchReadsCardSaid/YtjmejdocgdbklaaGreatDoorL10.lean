import Derived.Test.YtjmejdocgdbklaaGreatDoorL9
set_option linter.defProp false
set_option linter.unusedVariables false
set_option linter.unusedSimpArgs false
namespace Go.VM
section
variable{N:Nat}{l:B8}
inductive okT:ApiValue->Prop |mk (v:ApiValue) (ht:v.text.length<=100000) (hk:v.keys.length<=900000) (hi:v.items.length<=900000) (h: ∀x,x∈v.items->okT x):okT v
def okT.text{v:ApiValue}:okT v->v.text.length<=100000|.mk _ h _ _ _=>h
def okT.keys{v:ApiValue}:okT v->v.keys.length<=900000|.mk _ _ h _ _=>h
def okT.items{v:ApiValue}:okT v->v.items.length<=900000|.mk _ _ _ h _=>h
theorem okT.sub{v:ApiValue}:okT v-> ∀x,x∈v.items->okT x|.mk _ _ _ _ h=>h
theorem Ra:okT zeroV:=.mk _ (by simp[zeroV]) (by simp[zeroV]) (by simp[zeroV]) (by simp[zeroV])
def QV{v:ApiValue} (h:okT v) (key:B8):okT (BN v key).1:=by
 rcases Acm v key with e|e;·exact h.sub _ e
 grind[Ra]
def NI (p:Ref14Parser) (i e:Int):Ref14Parser:=if p.fail==0 then Ref14Parser.mk p.s p.at_ p.nodes e i else p
def GI (p:Ref14Parser) (i e:Int):BC N p i e=some (NI p i e):=by unfold BC NI;split<;>rfl
def NP (t:ApiToken) (c:B8):Hu N t c=some (t.kind==2&&t.text==c):=by unfold Hu;cases t.kind==2<;>simp
structure PIPprs (l:B8) (p:Ref14Parser):Prop where
  s:p.s=l
  lo:0<=p.at_
  hi:p.at_<=l.length
def PIPprs.stop{p:Ref14Parser} (h:PIPprs l p) (i e:Int):PIPprs l (NI p i e):=by
 unfold NI;split;·exact⟨h.s,h.lo,h.hi⟩
 omega
theorem IZ (p:Ref14Parser) (i e:Int):(NI p i e).at_=p.at_:=by unfold NI;split<;>rfl
def RA (p:Ref14Parser) (i e:Int) (he:e≠0):(NI p i e).fail≠0:=by grind[NI]
structure NXPprs (l:B8) (p:Ref14Parser) (r:ApiToken×Ref14Parser):Prop where
  pi:PIPprs l r.2
  le:p.at_<=r.2.at_
  txt:r.1.text.length<=4 * l.length
  on:r.2.fail=0->p.fail=0/\(r.1.kind≠1->p.at_<r.2.at_)
def Hf (hb:l.length<=100000) (hN:l.length+10<=N) (p:Ref14Parser) (h:PIPprs l p):Ok (BA N p) (NXPprs l p):=by
 unfold BA;refine Ok.ite (λhf=>Ok.ret ⟨h,br _,fA,λe=>by grind⟩) (λhf=>?_);have hf0:p.fail=0:=by grind
 rw[h.s];refine Ok.join (Ok.bind (AjL l p.at_ h.lo h.hi fy hN) λy hy=>?_);refine Ok.ite (λhe=>?_) (λhe=>?_)
 ·rw[GI,aa];have he':y.2.2≠0:=by grind
  exact Ok.ret ⟨h.stop _ _,by rw[IZ];omega,fA,λe=>absurd e (RA _ _ _ he')⟩
 ·obtain⟨a1,a2,a3,a4⟩:=hy.good (by grind);exact Ok.ret ⟨⟨rfl,by have:=h.lo;grind,a2⟩,a1,a3,λ_=>⟨hf0,a4⟩⟩
structure VRPprs (l:B8) (p:Ref14Parser) (r:ApiValue×Ref14Parser):Prop where
  v:okT r.1
  pi:PIPprs l r.2
  le:p.at_<=r.2.at_
def K8 (l:B8) (p:Ref14Parser):Nat:=if p.fail=0 then l.length-p.at_.toNat+2 else 1
theorem PU (p:Ref14Parser):1<=K8 l p:=by unfold K8;split<;>omega
def VP{p q:Ref14Parser} (hp:PIPprs l p) (hf:p.fail=0) (hq:PIPprs l q) (h:q.fail=0->p.at_<q.at_):K8 l q+1<=K8 l p:=by have:=hp.lo;have:=hp.hi;have:=hq.hi;unfold K8;rw[ah hf];grind
def AVD{items:List ApiValue} (kind:Int) (hl:items.length<=900000) (h: ∀x,x∈items->okT x):okT (ApiValue.mk kind [] [] items):=.mk _ fA fA hl h
def Xz (hb:l.length<=100000) (hN:l.length+10<=N) (d:Int) (rc:Ref14Parser->ApiToken->Int->Option (ApiValue×Ref14Parser)) (hrc: ∀p t,PIPprs l p->t.text.length<=4 * l.length->Ok (rc p t d) (VRPprs l p)) (p0:Ref14Parser): ∀(k:Nat) (t:ApiToken) (items:List ApiValue) (p:Ref14Parser),PIPprs l p->p0.at_<=p.at_->t.text.length<=4 * l.length->(∀x,x∈items->okT x)->K8 l p<=k->items.length+K8 l p<=200000->Ok (CP N d rc (λj5=>some (ApiValue.mk 6 [] [] j5.2.1,j5.2.2)) k t items p) (VRPprs l p0)
 |0,t,items,p,_,_,_,_,h,_=>by grind[PU]
 | k+1,t,items,p,hp,hle,ht,hi,hk,hB=>by
  rw[CP];have hpos:=PU (l:=l) p;refine Ok.ite (λhf=>?_) (λ_=>Ok.ret ⟨AVD _ (by grind) hi,hp,hle⟩);have hf0:p.fail=0:=by grind
  refine Ok.join (Ok.bind (hrc p t hp ht) λy14 h14=>Ok.grd (SG fy fy) ?_);refine Ok.bind (Hf hb hN y14.2 h14.pi) λy16 h16=>?_;rw[NP,aa];have hitems: ∀x,x∈items++[y14.1]->okT x:=λx hx=>by
   rcases aX.1 hx with hx|hx;·grind
   ·simp at hx;rw[hx];exact h14.v
  have a1:=h14.le;have a2:=h16.le;refine Ok.ite (λ_=>Ok.ret ⟨AVD _ (by grind) hitems,h16.pi,by grind⟩) (λ_=>?_);refine Ok.meet (λj:Ref14Parser=>PIPprs l j/\p.at_<=j.at_/\(j.fail=0->p.at_<j.at_)) (λj hj=>?_) (λk21 h21=>?_);·refine Ok.bind (Hf hb hN j hj.1) λy32 h32=>?_;have a3:=h32.le;have hl:=VP hp hf0 h32.pi (λe=>by have:=hj.2.2 (h32.on e).1;omega);exact Xz hb hN d rc hrc p0 k y32.1 _ y32.2 h32.pi fy h32.txt hitems fy (by grind)
  ·refine Ok.meet (λb:Bool=>b=false->y16.2.fail=0->p.at_<y16.2.at_) (λb hb'=>?_) (λk25 h25=>?_);·refine Ok.ite (λ_=>?_) (λhf=>h21 _ ⟨h16.pi,fy,hb' hf⟩);rw[GI,aa];exact h21 _ ⟨h16.pi.stop _ _,by grind[IZ],λe=>absurd e (RA _ _ _ fB)⟩
   ·refine Ok.ite (λhz=>?_) (λhz=>h25 _ (λ_ e=>by grind));rw[NP,aa];refine h25 _ (λhc e=>?_);have hk2:y16.1.kind=2:=by simp_all
    have:=(h16.on e).2 fy;omega
def Xy (hb:l.length<=100000) (hN:l.length+10<=N) (d:Int) (rc:Ref14Parser->ApiToken->Int->Option (ApiValue×Ref14Parser)) (hrc: ∀p t,PIPprs l p->t.text.length<=4 * l.length->Ok (rc p t d) (VRPprs l p)) (p0:Ref14Parser): ∀(k:Nat) (t:ApiToken) (keys:List B8) (items:List ApiValue) (p:Ref14Parser),PIPprs l p->p0.at_<=p.at_->t.text.length<=4 * l.length->(∀x,x∈items->okT x)->K8 l p<=k->items.length+K8 l p<=200000->keys.length=items.length->Ok (Bo N d rc (λj5=>some (ApiValue.mk 7 [] j5.2.1 j5.2.2.1,j5.2.2.2)) k t keys items p) (VRPprs l p0)
 |0,t,keys,items,p,_,_,_,_,h,_,_=>by grind[PU]
 | k + 1,t,keys,items,p,hp,hle,ht,hi,hk,hB,hkl=>by
  rw[Bo];have hpos:=PU (l:=l) p;have okO: ∀(ks:List B8) (xs:List ApiValue),ks.length<=900000->xs.length<=900000->(∀x,x∈xs->okT x)->okT (ApiValue.mk 7 [] ks xs):=λks xs h1 h2 h3=>.mk _ fA h1 h2 h3;refine Ok.ite (λhf=>?_) (λ_=>Ok.ret ⟨okO _ _ (by grind) (by grind) hi,hp,hle⟩);have hf0:p.fail=0:=by grind
  refine Ok.meet (λj:Ref14Parser=>PIPprs l j/\p.at_<=j.at_) (λj10 h10=>?_) (λk11 h11=>?_)
  ·refine Ok.meet (λj:Ref14Parser=>PIPprs l j/\p.at_<=j.at_) (λj16 h16=>?_) (λk17 h17=>?_)
   ·refine Ok.meet (λj:ApiToken×Ref14Parser=>PIPprs l j.2/\p.at_<=j.2.at_) (λj24 h24=>?_) (λk25 h25=>?_)
    ·refine Ok.bind (Hf hb hN j24.2 h24.1) λy38 h38=>?_;refine Ok.bind (hrc y38.2 y38.1 h38.pi h38.txt) λy40 h40=>Ok.grd (SG fy fy) (Ok.grd (SG fy fy) ?_);refine Ok.bind (Hf hb hN y40.2 h40.pi) λy42 h42=>?_;rw[NP,aa];have hitems: ∀x,x∈items++[y40.1]->okT x:=λx hx=>by
      rcases aX.1 hx with hx|hx;·grind
      ·simp at hx;rw[hx];exact h40.v
     have a0:=h24.2;have a1:=h38.le;have a2:=h40.le;have a3:=h42.le;refine Ok.ite (λ_=>Ok.ret ⟨okO _ _ (by grind) (by grind) hitems,h42.pi,by grind⟩) (λ_=>?_);refine Ok.meet (λj:Ref14Parser=>PIPprs l j/\p.at_<=j.at_/\(j.fail=0->p.at_<j.at_)) (λj hj=>?_) (λk47 h47=>?_);·refine Ok.bind (Hf hb hN j hj.1) λy58 h58=>?_;have a4:=h58.le;have hl:=VP hp hf0 h58.pi (λe=>by have:=hj.2.2 (h58.on e).1;omega);exact Xy hb hN d rc hrc p0 k y58.1 _ _ y58.2 h58.pi fy h58.txt hitems fy (by grind) (by grind)
     ·refine Ok.meet (λb:Bool=>b=false->y42.2.fail=0->p.at_<y42.2.at_) (λb hb'=>?_) (λk51 h51=>?_);·refine Ok.ite (λ_=>?_) (λhf=>h47 _ ⟨h42.pi,fy,hb' hf⟩);rw[GI,aa];exact h47 _ ⟨h42.pi.stop _ _,by grind[IZ],λe=>absurd e (RA _ _ _ fB)⟩
      ·refine Ok.ite (λhz=>?_) (λhz=>h51 _ (λ_ e=>by grind));rw[NP,aa];refine h51 _ (λhc e=>?_);have hk2:y42.1.kind=2:=by simp_all
       have:=(h42.on e).2 fy;omega
    ·refine Ok.bind (Hf hb hN j16 h16.1) λy28 h28=>?_;have a1:=h28.le;have a2:=h16.2;refine Ok.meet (λ_:Bool=>True) (λb _=>Ok.ite (λ_=>?_) (λ_=>h25 _ ⟨h28.pi,by grind⟩)) (λk31 h31=>Ok.ite (λ_=>by rw[NP,aa];grind) (λ_=>h31 _ trivial));rw[GI,aa];exact h25 _ ⟨h28.pi.stop _ _,by grind[IZ]⟩
   ·rw[Rq _ _ (by grind),aa];refine Ok.ite (λ_=>?_) (λ_=>h17 _ h10);rw[GI,aa];exact h17 _ ⟨h10.1.stop _ _,by grind[IZ]⟩
  ·refine Ok.ite (λ_=>?_) (λ_=>h11 _ ⟨hp,br _⟩);rw[GI,aa];exact h11 _ ⟨hp.stop _ _,by rw[IZ];omega⟩
def AO0 (t:B8):Ok (Nw N t) (λ_=>True):=by unfold Nw;exact Ok.ite (λ_=>Ok.ret trivial) (λ_=>Ok.ite (λ_=>Ok.ret trivial) (λ_=>Ok.ret trivial))
def VY (hb:l.length<=10000) (hN:4 * l.length+1000<=N): ∀D:Nat,(∀(p:Ref14Parser) (t:ApiToken) (d:Int),PIPprs l p->t.text.length<=4 * l.length->0<=d->d<=64->2 * (64-d)+2<=D->Ok (BI N D p t d) (VRPprs l p))/\(∀(p:Ref14Parser) (d:Int),PIPprs l p->0<=d->d<=64->2 * (64-d)+3<=D->Ok (D9 N D p d) (VRPprs l p))/\(∀(p:Ref14Parser) (d:Int),PIPprs l p->0<=d->d<=64->2 * (64-d)+3<=D->Ok (Df N D p d) (VRPprs l p))
 |0=>⟨λp t d _ _ _ _ h=>by omega,λp d _ _ _ h=>by omega,λp d _ _ _ h=>by omega⟩
 | D+1=>by
  obtain⟨ihv,iha,iho⟩:=VY hb hN D;have hleft: ∀q:Ref14Parser,K8 l q<=l.length+2:=λq=>by unfold K8;split<;>omega
  refine⟨λp t d hp ht h0 h64 hD=>?_,λp d hp h0 h64 hD=>?_,λp d hp h0 h64 hD=>?_⟩
  ·rw [BI];simp only[NP,aa];have z: ∀q,PIPprs l q->p.at_<=q.at_->Ok (some (ApiValue.mk 0 [] [] [],q)) (VRPprs l p):=λq h1 h2=>Ok.ret ⟨Ra,h1,h2⟩;refine Ok.meet (λ_:Bool=>True) (λb _=>?_) (λk2 h2=>?_)
   ·refine Ok.ite (λ_=>z p hp (br _)) (λ_=>Ok.ite (λ_=>?_) (λ_=>?_))
    ·refine Ok.meet (λb:Bool=>b=false->t.kind=2->d<64) (λb hb'=>?_) (λk10 h10=>?_)
     ·refine Ok.ite (λ_=>?_) (λhf=>?_);·rw[GI,aa];exact z _ (hp.stop _ _) (by rw[IZ];omega)
      ·have hd:=hb' hf;refine Ok.meet (λj:Int×B8×Ref14Parser=>PIPprs l j.2.2/\p.at_<=j.2.2.at_/\j.2.1.length<=100000) (λj hj=>?_) (λk16 h16=>?_)
       ·refine Ok.meet (λq:B8×Int×Int×Int×Int=>PIPprs l (Ref14Parser.mk q.1 q.2.1 q.2.2.1 q.2.2.2.1 q.2.2.2.2)/\p.at_<=q.2.1) (λq hq=>?_) (λk28 h28=>?_)
        ·refine Ok.ite (λ_=>Ok.bind (AO0 _) λy _=>Ok.ret ⟨.mk _ fA fA fA fA,hq.1,hq.2⟩) (λ_=>?_);refine Ok.ite (λhc=>?_) (λ_=>Ok.ite (λhc=>?_) (λ_=>Ok.ret ⟨.mk _ hj.2.2 fA fA fA,hq.1,hq.2⟩))
         ·have hk:t.kind=2:=by simp_all
          have:=hd hk;rw[AO (n:=d+1) fy];refine Ok.bind (iha _ (d+1) hq.1 fy fy fy) λy hy=>Ok.ret ⟨hy.v,hy.pi,?_⟩;exact fb hq.2 hy.le
         ·have hk:t.kind=2:=by simp_all
          have:=hd hk;rw[AO (n:=d+1) fy];refine Ok.bind (iho _ (d+1) hq.1 fy fy fy) λy hy=>Ok.ret ⟨hy.v,hy.pi,?_⟩;exact fb hq.2 hy.le
        ·have hm:PIPprs l (Ref14Parser.mk j.2.2.s j.2.2.at_ (wr .i64 (j.2.2.nodes+1)) j.2.2.fail j.2.2.where_):=⟨hj.1.s,hj.1.lo,hj.1.hi⟩;refine Ok.ite (λ_=>?_) (λ_=>h28 _ ⟨hm,hj.2.1⟩);rw[GI,aa];exact h28 _ ⟨hm.stop _ _,by grind[IZ]⟩
       ·refine Ok.ite (λ_=>?_) (λ_=>h16 _ ⟨hp,br _,by grind⟩);refine Ok.bind (AX5 t.text fy fy) λy hy=>?_;refine Ok.join (Ok.ite (λ_=>?_) (λ_=>h16 _ ⟨hp,br _,by grind⟩));rw[GI,aa];exact h16 _ ⟨hp.stop _ _,by simp only[IZ];omega,by grind⟩
     ·refine Ok.ite (λ_=>h10 _ (λhf _=>?_)) (λhk=>h10 _ (λ_ h=>by grind));grind
    ·rw[GI,aa];exact z _ (hp.stop _ _) (by rw[IZ];omega)
   ·refine Ok.ite (λ_=>h2 _ trivial) (λ_=>Ok.ite (λ_=>h2 _ trivial) (λ_=>Ok.ite (λ_=>h2 _ trivial) (λ_=>Ok.ite (λ_=>h2 _ trivial) (λ_=>h2 _ trivial))))
  ·rw[D9];refine Ok.bind (Hf fy fy p hp) λy1 h1=>?_;rw[NP,aa];refine Ok.ite (λ_=>Ok.ret ⟨.mk _ fA fA fA fA,h1.pi,h1.le⟩) (λ_=>?_);have:=hleft y1.2;exact Ok.join (Xz fy fy d (BI N D) (λq t hq ht=>ihv q t d hq ht h0 h64 fy) p N y1.1 [] y1.2 h1.pi h1.le h1.txt fA fy (by grind))
  ·rw[Df];refine Ok.bind (Hf fy fy p hp) λy1 h1=>?_;rw[NP,aa];refine Ok.ite (λ_=>Ok.ret ⟨.mk _ fA fA fA fA,h1.pi,h1.le⟩) (λ_=>?_);have:=hleft y1.2;exact Ok.join (Xy fy fy d (BI N D) (λq t hq ht=>ihv q t d hq ht h0 h64 fy) p N y1.1 [] [] y1.2 h1.pi h1.le h1.txt fA fy (by grind) rfl)
def AGm (hb:l.length<=10000) (hN:4 * l.length+1000<=N):Ok (KG N l) (λr=>okT r.1/\(r.2.2≠0->r.1=zeroV)):=by unfold KG;refine Ok.ite (λ_=>Ok.ret ⟨Ra,λ_=>rfl⟩) (λ_=>?_);have h0:PIPprs l (Ref14Parser.mk l 0 0 0 0):=⟨rfl,br _,fA⟩;refine Ok.bind (Hf fy fy _ h0) λy1 h1=>?_;refine Ok.bind ((VY hb hN N).1 y1.2 y1.1 0 h1.pi h1.txt fy fy fy) λy3 h3=>?_;refine Ok.join (Ok.bind (Hf fy fy y3.2 h3.pi) λy9 h9=>?_);have fin: ∀p:Ref14Parser,Ok (if(p.fail !=0)=true then some (ApiValue.mk 0 [] [] [],p.where_,p.fail)else some (y3.1,(l.length:Int),0)) (λr=>okT r.1/\(r.2.2≠0->r.1=zeroV)):=λp=>Ok.ite (λ_=>Ok.ret ⟨Ra,λ_=>rfl⟩) (λ_=>Ok.ret ⟨h3.v,fA⟩);refine Ok.join (Ok.ite (λ_=>Ok.ite (λ_=>?_) (λ_=>fin _)) (λ_=>Ok.ite (λh=>by cases h) (λ_=>fin _)));rw[GI,aa];exact fin _
end
end Go.VM
namespace Go.VM
section
variable{N:Nat}
def M5 (e x:Int):Int:=if(e==0)=true then x else e
theorem TH{e x:Int} (h:x≠0):M5 e x≠0:=by
 unfold M5;split;·exact h
 ·rename_i k;intro h';rw[h']at k;exact k rfl
theorem RS{e x:Int} (h:e≠0):M5 e x=e:=by simp_all[M5]
theorem XK (d:ApiDID) (e x:Int):EL N ⟨d,e⟩ x=some ⟨d,M5 e x⟩:=by unfold EL M5;dsimp only;split<;>rfl
theorem MN (d:ApiDID) (e x:Int):BJ N ⟨d,e⟩ x=some ⟨d,M5 e x⟩:=by unfold BJ M5;dsimp only;split<;>rfl
def OE (e:Int) (v:ApiValue):Int:=if(v.kind !=5)=true then M5 e 160 else e
def Z6 (e:Int) (l:List ApiValue):Int:=l.foldl OE e
def Rv (e:Int) (m:ApiValue):List ApiValue×Int:=if(m.kind !=6)=true then([],M5 e 160)else if m.items.length>64 then([],M5 e 161)else(m.items,e)
def EK (e:Int) (g:ApiValue×Bool):List ApiValue×Int:=if g.2=true then Rv e g.1 else([],e)
def Q7 (e:Int) (m:ApiValue):List B8×Int:=if(m.kind==5)=true then([m.text],e)else((Rv e m).1.map (·.text),Z6 (Rv e m).2 (Rv e m).1)
def idS (N:Nat) (d:ApiDID) (e:Int) (v:ApiValue):B8×Int:=if((Zk N d (BN v [105,100]).1.text).2 !=0)=true then([],M5 (OE e (BN v [105,100]).1) 160)else(AP1 (Zk N d (BN v [105,100]).1.text).1,OE e (BN v [105,100]).1)
theorem AVV (e:Int) (m:ApiValue):(Rv e m).1.length<=64:=by grind[Rv]
theorem AoA{e:Int}{m:ApiValue} (h:okT m): ∀x,x∈(Rv e m).1->okT x:=by
 unfold Rv;split;·simp
 split;·simp
 ·exact h.sub
theorem XB (e:Int) (g:ApiValue×Bool):(EK e g).1.length<=64:=by grind[EK,AVV]
def AJ1{e:Int}{g:ApiValue×Bool} (h:okT g.1): ∀x,x∈(EK e g).1->okT x:=by grind[EK,AoA]
theorem Zg{d:ApiDID} (k:List B8×DiddocDecoder->Option (List B8×DiddocDecoder)): ∀(l:List ApiValue) (acc:List B8) (e:Int),acc.length+l.length<=1000000->CL N k l acc ⟨d,e⟩=k (acc++l.map (·.text),⟨d,Z6 e l⟩)
 |[],acc,e,_=>by rw[CL,bM,bm];rfl
 | v::l,acc,e,h=>by
  simp only[ag]at h;rw[CL];refine(Av (a:=(⟨d,OE e v⟩:DiddocDecoder)) λk=>?_).trans ?_
  ·unfold OE;split;·rw[XK,aa]
   ·rfl
  ·rw[AJ (UY fy fy),Zg k l _ _ (by grind)];simp[Z6]
def UH (d:ApiDID) (e:Int) (l:List ApiValue) (h:l.length<=1000):Du N ⟨d,e⟩ l=some (l.map (·.text),⟨d,Z6 e l⟩):=by grind[Du,AA,BS,Zg]
def AAS (d:ApiDID) (e:Int) (v:ApiValue) (key:B8) (h:v.keys.length<=900000):DX N ⟨d,e⟩ v key=some ((BN v key).1.text,⟨d,OE e (BN v key).1⟩):=by unfold DX;rw[ABs v key h,aa,UH _ _ _ fA,aa];rfl
def AUf (d:ApiDID) (e:Int) (m:ApiValue):Fy N ⟨d,e⟩ m=some ((Rv e m).1,⟨d,(Rv e m).2⟩):=by
 unfold Fy Rv;split;·grind[XK]
 ·split;·rename_i h;rw[XK,ah (by simp only[aq]at h;omega)];rfl
  ·rename_i h;rw[ae (by simp only[aq]at h;omega)]
def ACS (d:ApiDID) (e:Int) (v:ApiValue) (key:B8) (h:v.keys.length<=900000):E9 N ⟨d,e⟩ v key=some ((EK e (BN v key)).1,⟨d,(EK e (BN v key)).2⟩):=by
 unfold E9 EK;rw[ABs v key h,aa];split;·rw[AUf];rfl
 ·rfl
def AJY (d:ApiDID) (e:Int) (m:ApiValue):Ch N ⟨d,e⟩ m=some ((Q7 e m).1,⟨d,(Q7 e m).2⟩):=by
 unfold Ch Q7;split;·rename_i h;rw[UH _ _ _ fA,aa];simp_all[Z6,OE]
 ·rw[AUf,aa,UH _ _ _ (by have:=AVV e m;dsimp only;omega)];rfl
def Adf (d:ApiDID) (e:Int) (v:ApiValue) (hd:d.method.length<=100000/\d.iD.length<=100000) (h:okT v) (hN:20000<=N):H7 N ⟨d,e⟩ v=some ((idS N d e v).1,⟨d,(idS N d e v).2⟩):=by
 unfold H7 idS;have l:=AD7 (N:=N) d (BN v [105,100]).1.text;obtain⟨l1,l2,l3,l4,l5⟩:=l;rw[AAS _ _ _ _ h.keys,aa];dsimp only;rw[AgO d _ hd (QV h _).text hN,aa];split;·grind[XK]
 ·rw[Aky _ ⟨fy,fy,fy,fy,fy⟩];rfl
def kTy:B8:=[116,121,112,101]
def kEp:B8:=[115,101,114,118,105,99,101,69,110,100,112,111,105,110,116]
def kCo:B8:=[99,111,110,116,114,111,108,108,101,114]
def kSe:B8:=[115,101,114,118,105,99,101]
def kVm:B8:=[118,101,114,105,102,105,99,97,116,105,111,110,77,101,116,104,111,100]
def kAk:B8:=[97,108,115,111,75,110,111,119,110,65,115]
def Nf (N:Nat) (d:ApiDID) (e:Int) (v:ApiValue):ApiService×Int:=if((BN v kEp).1.kind !=7)=true then (⟨(idS N d e v).1,(Q7 (idS N d e v).2 (BN v kTy).1).1,(Q7 (Q7 (idS N d e v).2 (BN v kTy).1).2 (BN v kEp).1).1⟩,(Q7 (Q7 (idS N d e v).2 (BN v kTy).1).2 (BN v kEp).1).2) else(⟨(idS N d e v).1,(Q7 (idS N d e v).2 (BN v kTy).1).1,[]⟩,(Q7 (idS N d e v).2 (BN v kTy).1).2)
def QO (N:Nat) (d:ApiDID) (e:Int) (v:ApiValue):ApiMethod×Int:=(⟨(idS N d e v).1,(BN v kTy).1.text,(BN v kCo).1.text⟩,OE (OE (idS N d e v).2 (BN v kTy).1) (BN v kCo).1)
def Adp (d:ApiDID) (e:Int) (v:ApiValue) (hd:d.method.length<=100000/\d.iD.length<=100000) (h:okT v) (hN:20000<=N):GH N ⟨d,e⟩ v=some ((Nf N d e v).1,⟨d,(Nf N d e v).2⟩):=by
 unfold GH Nf;rw[Adf d e v hd h hN,aa,ABs v _ h.keys,aa];dsimp only;rw[AJY,aa,AA,ABs v _ h.keys,aa];dsimp only;change (if((BN v kEp).1.kind !=7)=true then _ else _)=_;split;·change Option.bind (Ch N ⟨d,_⟩ (BN v kEp).1) _=_;rw[AJY];rfl
 ·rfl
def PI (d:ApiDID) (e:Int) (v:ApiValue) (key:B8) (h:v.keys.length<=900000):FE N ⟨d,e⟩ v key=some ((BN v key).1.text,⟨d,OE e (BN v key).1⟩):=by
 unfold FE OE;rw[Rq v key fy,aa,AA];split;·rw[MN];rfl
 ·rfl
def Vz (e:Int) (g:ApiValue×Bool) (b:Bool):List B8×Int:=if g.2=true then(if(b&&(g.1.kind==5))=true then([g.1.text],e)else((Rv e g.1).1.map (·.text),Z6 (Rv e g.1).2 (Rv e g.1).1))else([],e)
def AEb{d:ApiDID} (k:List B8×Ref17Reader->Option (List B8×Ref17Reader)): ∀(l:List ApiValue) (acc:List B8) (e:Int),acc.length+l.length<=1000000->CO N k l acc ⟨d,e⟩=k (acc++l.map (·.text),⟨d,Z6 e l⟩)
 |[],acc,e,_=>by rw[CO,bM,bm];rfl
 | v::l,acc,e,h=>by
  simp only[ag]at h;rw[CO];refine(Av (a:=(⟨d,OE e v⟩:Ref17Reader)) λk=>?_).trans ?_
  ·unfold OE;split;·rw[MN,aa]
   ·rfl
  ·rw[AJ (UY fy fy),AEb k l _ _ (by grind)];simp[Z6]
def AAI (d:ApiDID) (e:Int) (v:ApiValue) (key:B8) (b:Bool) (h:v.keys.length<=900000):Bt N ⟨d,e⟩ v key b=some ((Vz e (BN v key) b).1,⟨d,(Vz e (BN v key) b).2⟩):=by
 unfold Bt Vz;rw[Rq v key fy,aa];split
 ·refine(Av (a:=b&&((BN v key).1.kind==5)) λk=>by cases b<;>rfl).trans ?_;split;·rfl
  ·unfold Rv;split;·rw[MN];rfl
   ·split;·rename_i h;rw[MN,ah (by simp only[aq]at h;omega)];rfl
    ·rename_i h;rw[ae (by simp only[aq]at h;omega),AA,BS (by simp only[aq]at h;omega),AEb _ _ _ _ (by simp only[aq]at h;grind)];rfl
 ·rfl
def AU3 (d:ApiDID) (e:Int) (v:ApiValue) (key:B8) (h:v.keys.length<=900000):Dt N ⟨d,e⟩ v key=some ((EK e (BN v key)).1,⟨d,(EK e (BN v key)).2⟩):=by
 unfold Dt EK Rv;rw[Rq v key fy,aa];split
 ·split;·grind[MN]
  ·split;·rename_i h;rw[MN,ah (by simp only[aq]at h;omega)];rfl
   ·rename_i h;rw[ae (by simp only[aq]at h;omega)]
 ·rfl
def APW (d:ApiDID) (e:Int) (v:ApiValue) (hd:d.method.length<=100000/\d.iD.length<=100000) (h:okT v) (hN:20000<=N):JC N ⟨d,e⟩ v=some ((idS N d e v).1,⟨d,(idS N d e v).2⟩):=by
 unfold JC idS;have l:=AD7 (N:=N) d (BN v [105,100]).1.text;obtain⟨l1,l2,l3,l4,l5⟩:=l;rw[PI _ _ _ _ h.keys,aa];dsimp only;rw[Afy d _ hd (QV h _).text hN,aa];split;·grind[MN]
 ·rw[Akm _ ⟨fy,fy,fy,fy,fy⟩];rfl
theorem ZH: ∀(ks:List B8) (xs:List ApiValue) (key:B8),(Q6 ks xs key).2=false->(Q6 ks xs key).1=zeroV
 |[],_,_,_=>by grind[Q6]
 |_::_,[],_,_=>by grind[Q6]
 | k::ks,x::xs,key,h=>by
  unfold Q6 at h⊢;split;·simp_all
  ·rename_i hk;rw[ae hk]at h;exact ZH ks xs key h
def ZW{v:ApiValue}{key:B8} (h:(BN v key).2=false):(BN v key).1=zeroV:=by
 unfold BN at h⊢;split;·rename_i k;rw[ah k]at h;grind[ZH]
 ·rfl
def AbW (e:Int):Q7 e zeroV=([],M5 e 160):=by unfold Q7 Rv zeroV;rfl
theorem AAM{e:Int} (h:e≠0) (v:ApiValue):OE e v=e:=by grind[OE,RS]
theorem AGB{e:Int} (h:e≠0): ∀l:List ApiValue,Z6 e l=e |[]=>rfl|v::l=>by unfold Z6;rw[dI,AAM h];exact AGB h l
theorem ARp{e:Int} (h:e≠0) (m:ApiValue):(Rv e m).2=e:=by grind[Rv,RS]
theorem AUO{e:Int} (h:e≠0) (g:ApiValue×Bool):(EK e g).2=e:=by grind[EK,ARp]
theorem ARz{e:Int} (h:e≠0) (m:ApiValue):(Q7 e m).2=e:=by grind[Q7,ARp,AGB]
theorem Alc{e:Int} (h:e≠0) (d:ApiDID) (v:ApiValue):(idS N d e v).2=e:=by grind[idS,AAM,RS]
theorem AGL{e:Int} (h:e≠0) (d:ApiDID) (v:ApiValue):(Nf N d e v).2=e:=by grind[idS,Alc,Q7,BN,kTy,ARz,Nf]
theorem AVZ{e:Int} (h:e≠0) (d:ApiDID) (v:ApiValue):(QO N d e v).2=e:=by grind[idS,Alc,QO,AAM]
theorem Aed{v:ApiValue} (h:(v.kind !=7)=true) (key:B8):BN v key=(zeroV,false):=by simp_all[BN]
theorem Afr{v:ApiValue} (h:(v.kind !=7)=true) (d:ApiDID) (e:Int):(idS N d e v).2=M5 e 160:=by have k:OE e zeroV=M5 e 160:=rfl;grind[idS,Aed,RS,TH]
def O7 (N:Nat) (d:ApiDID) (e:Int) (v:ApiValue):ApiService×Int:=if(v.kind !=7)=true then(⟨[],[],[]⟩,M5 e 160)else Nf N d e v
def Nj (N:Nat) (d:ApiDID) (e:Int) (v:ApiValue):ApiMethod×Int:=if(v.kind !=7)=true then(⟨[],[],[]⟩,M5 e 160)else QO N d e v
theorem AUw (e:Int) (g:ApiValue×Bool) (h:g.2=true):Vz e g true=Q7 e g.1:=by simp_all[Vz,Q7]
def Aei (d:ApiDID) (e:Int) (v:ApiValue) (hd:d.method.length<=100000/\d.iD.length<=100000) (h:okT v) (hN:20000<=N):H5 N ⟨d,e⟩ v=some ((O7 N d e v).1,⟨d,(O7 N d e v).2⟩):=by
 unfold H5 O7;split;·grind[MN]
 rw[APW d e v hd h hN,aa];unfold Nf;dsimp only;generalize idS N d e v=I;have key: ∀(e:Int) (key:B8) (k:Ref17Reader->Option (ApiService×Ref17Reader)) (R:List B8×Int->Option (ApiService×Ref17Reader)),(∀e',k ⟨d,e'⟩=R (Vz e' (BN v key) true))->(if(BN v key).2=true then k ⟨d,e⟩else (BJ N ⟨d,e⟩ 160).bind λy=>k y)=R (Q7 e (BN v key).1):=by
  intro e key k R hk;cases hg:(BN v key).2;·rw[ae fB,MN,aa,hk,ZW hg,AbW];grind[Vz]
  ·rw[ah rfl,hk,AUw _ _ hg]
 rw[AA,Rq v _ (by have:=h.keys;omega),aa];refine(key I.2 kTy _ (λr=>(Jw N v kEp).bind λy15=>AB (λj17:Ref17Reader=>AB (λj23:List B8×Ref17Reader=>some (ApiService.mk I.1 r.1 j23.1,j23.2)) λk24=>if(y15.1.kind !=7)=true then (Bt N j17 v kEp true).bind λy27=>k24 (y27.1,y27.2)else k24 ([],j17)) λk18=>if y15.2=true then k18 ⟨d,r.2⟩else (BJ N ⟨d,r.2⟩ 160).bind λy21=>k18 y21) λe'=>?_).trans ?_;·rw[show([116,121,112,101]:B8)=kTy from rfl,AAI d e' v kTy true h.keys,aa];rfl
 ·rw[Rq v kEp (by have:=h.keys;omega),aa];simp only[AA];generalize Q7 I.2 (BN v kTy).1=S;by_cases hk:((BN v kEp).1.kind !=7)=true;·simp only[ah hk];refine(key S.2 kEp _ (λr=>some (ApiService.mk I.1 S.1 r.1,⟨d,r.2⟩)) λe'=>?_).trans rfl;rw[AAI d e' v kEp true h.keys,aa]
  ·simp only[ae hk];cases hg:(BN v kEp).2;·rw[ZW hg]at hk;exact absurd rfl hk
   simp
def Aj8 (d:ApiDID) (e:Int) (v:ApiValue) (hd:d.method.length<=100000/\d.iD.length<=100000) (h:okT v) (hN:20000<=N):IM N ⟨d,e⟩ v=some ((Nj N d e v).1,⟨d,(Nj N d e v).2⟩):=by
 unfold IM Nj;split;·grind[MN]
 rw[APW d e v hd h hN,aa,PI _ _ _ _ h.keys,aa,PI _ _ _ _ h.keys];rfl
def eqE{α:Type} (a b:α×Int):Prop:=a.2=b.2/\(a.2=0->a.1=b.1)
def Ad6 (d:ApiDID){e:Int} (v:ApiValue):eqE (Nf N d e v) (O7 N d e v):=by
 unfold O7;split
 ·rename_i h;have h1:(Nf N d e v).2=M5 e 160:=by grind[idS,Afr,TH,Q7,BN,kTy,ARz,Nf]
  exact⟨h1,λk=>absurd (h1.symm.trans k) (TH fB)⟩
 ·exact⟨rfl,λ_=>rfl⟩
def AcQ (d:ApiDID){e:Int} (v:ApiValue):eqE (QO N d e v) (Nj N d e v):=by
 unfold Nj;split
 ·rename_i h;have h1:(QO N d e v).2=M5 e 160:=by grind[idS,Afr,TH,QO,AAM]
  exact⟨h1,λk=>absurd (h1.symm.trans k) (TH fB)⟩
 ·exact⟨rfl,λ_=>rfl⟩
def Nb{α:Type} (f:Int->ApiValue->α×Int) (l:List ApiValue) (e:Int) (acc:List α):List α×Int:=l.foldl (λs v=>(s.1++[(f s.2 v).1],(f s.2 v).2)) (acc,e)
def AKW{α:Type}{f g:Int->ApiValue->α×Int} (h: ∀e v,eqE (f e v) (g e v)) (hf: ∀e v,e≠0->(f e v).2=e): ∀(l:List ApiValue) (a b:List α) (e:Int),(e=0->a=b)->eqE (Nb f l e a) (Nb g l e b)
 |[],a,b,e,k=>⟨rfl,k⟩
 | v::l,a,b,e,k=>by
  unfold Nb;rw[dI,dI];obtain⟨h1,h2⟩:=h e v;rw[<-h1];refine AKW h hf l _ _ _ λk2=>?_;have e0:e=0:=by rcases ev (e=0)with h0|h0<;>simp_all[absurd]
  grind
theorem ASm{α:Type}{f:Int->ApiValue->α×Int} (hf: ∀e v,e≠0->(f e v).2=e){e:Int} (h:e≠0): ∀(l:List ApiValue) (acc:List α),(Nb f l e acc).2=e |[],_=>rfl| v::l,acc=>by unfold Nb;rw[dI,hf e v h];exact ASm hf h l _
def AgU{e:Int}{g:ApiValue×Bool} (h:(EK e g).2=0):e=0:=by
 rcases ev (e=0)with k|k;·exact k
 grind[AUO,absurd]
def Aet{α:Type}{f:Int->ApiValue->α×Int} (hf: ∀e v,e≠0->(f e v).2=e){M:Int}{g:ApiValue×Bool}{l:List ApiValue}{acc:List α} (h:(Nb f l (EK M g).2 acc).2=0):M=0:=by
 rcases ev ((EK M g).2=0)with k|k;·exact AgU k
 grind[ASm,absurd]
def Af0{e:Int} (h:e≠0) (d:ApiDID) (v:ApiValue):(O7 N d e v).2=e:=by grind[O7,RS,AGL]
def AfG{e:Int} (h:e≠0) (d:ApiDID) (v:ApiValue):(Nj N d e v).2=e:=by grind[Nj,RS,AVZ]
def AcF{d:ApiDID} (hd:d.method.length<=100000/\d.iD.length<=100000) (hN:20000<=N) (k:List ApiMethod×DiddocDecoder->Option (ApiDoc×Int)): ∀(l:List ApiValue) (acc:List ApiMethod) (e:Int),(∀x,x∈l->okT x)->acc.length+l.length<=1000->Ex N k l acc ⟨d,e⟩=k ((Nb (QO N d) l e acc).1,⟨d,(Nb (QO N d) l e acc).2⟩) |[],acc,e,_,_=>by rw[Ex];rfl| v::l,acc,e,h,hl=>by have hv:=h v fA;simp only[ag]at hl;rw[Ex,Adf d e v hd hv hN,aa,AAS _ _ _ _ hv.keys,aa,AAS _ _ _ _ hv.keys,aa,AJ (UY fy fy)];exact AcF hd hN k l (acc++[(QO N d e v).1]) (QO N d e v).2 (λx AQ=>h x (by grind)) (by grind)
def Ae6{d:ApiDID} (hd:d.method.length<=100000/\d.iD.length<=100000) (hN:20000<=N) (k:List ApiService×DiddocDecoder->Option (ApiDoc×Int)): ∀(l:List ApiValue) (acc:List ApiService) (e:Int),(∀x,x∈l->okT x)->acc.length+l.length<=1000->Ez N k l acc ⟨d,e⟩=k ((Nb (Nf N d) l e acc).1,⟨d,(Nb (Nf N d) l e acc).2⟩) |[],acc,e,_,_=>by rw[Ez];rfl| v::l,acc,e,h,hl=>by have hv:=h v fA;simp only[ag]at hl;rw[Ez,AA,Adp d e v hd hv hN,aa,AJ (UY fy fy)];exact Ae6 hd hN k l (acc++[(Nf N d e v).1]) (Nf N d e v).2 (λx AQ=>h x (by grind)) (by grind)
def Adi{d:ApiDID} (hd:d.method.length<=100000/\d.iD.length<=100000) (hN:20000<=N) (k:List ApiMethod×Ref17Reader->Option (ApiDoc×Int)): ∀(l:List ApiValue) (acc:List ApiMethod) (e:Int),(∀x,x∈l->okT x)->acc.length+l.length<=1000->El N k l acc ⟨d,e⟩=k ((Nb (Nj N d) l e acc).1,⟨d,(Nb (Nj N d) l e acc).2⟩) |[],acc,e,_,_=>by rw[El];rfl| v::l,acc,e,h,hl=>by have hv:=h v fA;simp only[ag]at hl;rw[El,AA,Aj8 d e v hd hv hN,aa,AJ (UY fy fy)];exact Adi hd hN k l (acc++[(Nj N d e v).1]) (Nj N d e v).2 (λx AQ=>h x (by grind)) (by grind)
def AfX{d:ApiDID} (hd:d.method.length<=100000/\d.iD.length<=100000) (hN:20000<=N) (k:List ApiService×Ref17Reader->Option (ApiDoc×Int)): ∀(l:List ApiValue) (acc:List ApiService) (e:Int),(∀x,x∈l->okT x)->acc.length+l.length<=1000->Eo N k l acc ⟨d,e⟩=k ((Nb (O7 N d) l e acc).1,⟨d,(Nb (O7 N d) l e acc).2⟩) |[],acc,e,_,_=>by rw[Eo];rfl| v::l,acc,e,h,hl=>by have hv:=h v fA;simp only[ag]at hl;rw[Eo,AA,Aei d e v hd hv hN,aa,AJ (UY fy fy)];exact AfX hd hN k l (acc++[(O7 N d e v).1]) (O7 N d e v).2 (λx AQ=>h x (by grind)) (by grind)
def AMW:ApiDoc:=⟨[],[],[],[],[]⟩
def WR (v:ApiValue):List B8×Int:=((EK 0 (BN v kAk)).1.map (·.text),Z6 (EK 0 (BN v kAk)).2 (EK 0 (BN v kAk)).1)
def RB (e:Int) (g:ApiValue×Bool):List B8×Int:=if g.2=true then Q7 e g.1 else([],e)
def AMh (N:Nat) (v:ApiValue):ApiDoc×Int:=
  if(v.kind !=7)=true then(AMW,160)
  else if(OE 0 (BN v [105,100]).1 !=0)=true\/((I4 (BN v [105,100]).1.text).2 !=0)=true then(AMW,160)
  else
    let d:=(I4 (BN v [105,100]).1.text).1
    let a:=WR v
    let c:=RB a.2 (BN v kCo)
    let lm:=EK c.2 (BN v kVm)
    let m:=Nb (QO N d) lm.1 lm.2 []
    let ls:=EK m.2 (BN v kSe)
    let s:=Nb (Nf N d) ls.1 ls.2 []
    if(s.2 !=0)=true then(AMW,s.2)else(⟨Gy d,a.1,c.1,m.1,s.1⟩,0)
def AiZ (v:ApiValue) (h:okT v) (hN:20000<=N):Kn N v=some (AMh N v):=by
 unfold Kn AMh;split;·rfl
 have hl:=QI (BN v [105,100]).1.text;have hk:=h.keys;rw[AAS _ _ _ _ hk,aa];dsimp only;rw[AAJ _ (by have:=(QV h [105,100]).text;omega) hN,aa];refine(Av (a:=(OE 0 (BN v [105,100]).1 !=0)||((I4 (BN v [105,100]).1.text).2 !=0)) λk=>by cases (OE 0 (BN v [105,100]).1 !=0)<;>rfl).trans ?_;split;·rename_i hc;rw[ah (by grind)];rfl
 rename_i hc;rw[ae (by grind)];have e0:OE 0 (BN v [105,100]).1=0:=by simp_all
 generalize hd:(I4 (BN v [105,100]).1.text).1=d at *;have hd':d.method.length<=100000/\d.iD.length<=100000:=⟨fy,fy⟩;rw[QK _ ⟨fy,fy⟩,aa,e0,show([97,108,115,111,75,110,111,119,110,65,115]:B8)=kAk from rfl,ACS _ _ _ _ hk,aa];dsimp only;rw[UH _ _ _ (by grind[XB,BN,kAk]),aa];refine(Av (a:=((RB (WR v).2 (BN v kCo)).1,(⟨d,(RB (WR v).2 (BN v kCo)).2⟩:DiddocDecoder))) λk=>?_).trans ?_
 ·rw[show([99,111,110,116,114,111,108,108,101,114]:B8)=kCo from rfl,ABs v _ hk,aa];unfold RB;split;·rw[show Z6 (EK 0 (BN v kAk)).2 (EK 0 (BN v kAk)).1=(WR v).2 from rfl,AJY,aa]
  ·rfl
 dsimp only;generalize RB (WR v).2 (BN v kCo)=C;have ok1:=AJ1 (e:=C.2) (QV h kVm);have l1:=XB C.2 (BN v kVm);refine(Av (a:=((Nb (QO N d) (EK C.2 (BN v kVm)).1 (EK C.2 (BN v kVm)).2 []).1,(⟨d,(Nb (QO N d) (EK C.2 (BN v kVm)).1 (EK C.2 (BN v kVm)).2 []).2⟩:DiddocDecoder))) λk=>?_).trans ?_;·rw[show([118,101,114,105,102,105,99,97,116,105,111,110,77,101,116,104,111,100]:B8)=kVm from rfl,ACS _ _ _ _ hk,aa,BS (by grind),AcF hd' hN k _ _ _ ok1 (by grind)]
 dsimp only;generalize Nb (QO N d) (EK C.2 (BN v kVm)).1 (EK C.2 (BN v kVm)).2 []=M;have ok2:=AJ1 (e:=M.2) (QV h kSe);have l2:=XB M.2 (BN v kSe);refine(Av (a:=((Nb (Nf N d) (EK M.2 (BN v kSe)).1 (EK M.2 (BN v kSe)).2 []).1,(⟨d,(Nb (Nf N d) (EK M.2 (BN v kSe)).1 (EK M.2 (BN v kSe)).2 []).2⟩:DiddocDecoder))) λk=>?_).trans ?_;·rw[show([115,101,114,118,105,99,101]:B8)=kSe from rfl,ACS _ _ _ _ hk,aa,BS (by grind),Ae6 hd' hN k _ _ _ ok2 (by grind)]
 dsimp only;split<;>rfl
def AgC (e:Int) (g:ApiValue×Bool):Vz e g true=RB e g:=by
 unfold RB;split;·grind[AUw]
 simp_all[Vz]
def Ac1 (v:ApiValue):Vz 0 (BN v kAk) false=WR v:=by unfold Vz WR EK;cases (BN v kAk).2<;>rfl
def Ah2 (v:ApiValue) (h:okT v) (hN:20000<=N):Lb N v=some (AMh N v):=by
  unfold Lb AMh
  split
  . rfl
  have hl:=QI (BN v [105,100]).1.text
  have hk:=h.keys
  rw[PI _ _ _ _ hk,aa]
  dsimp only
  rw[Wl _ (by have:=(QV h [105,100]).text;omega) hN,aa]
  by_cases AQ:((I4 (BN v [105,100]).1.text).2 !=0)=true
  . rw[ah AQ,ah (.inr AQ)];rfl
  rw[ae AQ]
  generalize hd:(I4 (BN v [105,100]).1.text).1=d at *
  have hd':d.method.length<=100000/\d.iD.length<=100000:=⟨fy,fy⟩
  have fin: ∀e0:Int,((Bt N (Ref17Reader.mk d e0) v kAk false).bind λy12=>
      (Bt N y12.2 v kCo true).bind λy14=>
      (Dt N y14.2 v kVm).bind λy20=>
      grd (AL y20.1.length) (El N (λj16=>
        (Dt N j16.2 v kSe).bind λy33=>
        grd (AL y33.1.length) (Eo N (λj29=>if(j29.2.fail !=0)=true then some (AMW,j29.2.fail)else some (ApiDoc.mk (Gy d) y12.1 y14.1 j16.1 j29.1,(0:Int))) y33.1 [] y33.2)) y20.1 [] y20.2))=
      (let a:=Vz e0 (BN v kAk) false
       let c:=RB a.2 (BN v kCo)
       let lm:=EK c.2 (BN v kVm)
       let m:=Nb (Nj N d) lm.1 lm.2 []
       let ls:=EK m.2 (BN v kSe)
       let s:=Nb (O7 N d) ls.1 ls.2 []
       if(s.2 !=0)=true then some (AMW,s.2)else some (⟨Gy d,a.1,c.1,m.1,s.1⟩,0)):=by
    intro e0
    dsimp only
    rw[AAI d e0 v kAk false hk,aa]
    dsimp only
    rw[AAI d _ v kCo true hk,aa,AgC]
    dsimp only
    generalize RB (Vz e0 (BN v kAk) false).2 (BN v kCo)=C
    have ok1:=AJ1 (e:=C.2) (QV h kVm)
    have l1:=XB C.2 (BN v kVm)
    rw[AU3 d _ v kVm hk,aa,BS (by dsimp only;omega),Adi hd' hN _ _ _ _ ok1 fC]
    dsimp only
    generalize Nb (Nj N d) (EK C.2 (BN v kVm)).1 (EK C.2 (BN v kVm)).2 []=M
    have ok2:=AJ1 (e:=M.2) (QV h kSe)
    have l2:=XB M.2 (BN v kSe)
    rw[AU3 d _ v kSe hk,aa,BS (by dsimp only;omega),AfX hd' hN _ _ _ _ ok2 fC]
  simp only[AA]
  rw[QM _ ⟨fy,fy⟩,aa]
  refine(fin (OE 0 (BN v [105,100]).1)).trans ?_
  dsimp only
  by_cases he:OE 0 (BN v [105,100]).1=0
  . rw[ae (show¬((OE 0 (BN v [105,100]).1 !=0)=true\/((I4 (BN v [105,100]).1.text).2 !=0)=true)from λk=>k.elim (λk=>by grind) AQ),he,Ac1]
    have L1:=EK (RB (WR v).2 (BN v kCo)).2 (BN v kVm)
    generalize WR v=A
    generalize RB A.2 (BN v kCo)=C
    obtain⟨m1,m2⟩:=AKW (λe v=>AcQ (N:=N) d (e:=e) v) (λe v he=>AVZ he d v) (EK C.2 (BN v kVm)).1 [] [] (EK C.2 (BN v kVm)).2 (λ_=>rfl)
    generalize Nb (QO N d) (EK C.2 (BN v kVm)).1 (EK C.2 (BN v kVm)).2 []=M at *
    generalize Nb (Nj N d) (EK C.2 (BN v kVm)).1 (EK C.2 (BN v kVm)).2 []=R at *
    rw[<-m1]
    obtain⟨s1,s2⟩:=AKW (λe v=>Ad6 (N:=N) d (e:=e) v) (λe v he=>AGL he d v) (EK M.2 (BN v kSe)).1 [] [] (EK M.2 (BN v kSe)).2 (λ_=>rfl)
    rw[<-s1]
    by_cases hz:((Nb (Nf N d) (EK M.2 (BN v kSe)).1 (EK M.2 (BN v kSe)).2 []).2 !=0)=true
    . simp_all
    . have hz':(Nb (Nf N d) (EK M.2 (BN v kSe)).1 (EK M.2 (BN v kSe)).2 []).2=0:=by grind
      rw[ae hz,ae hz,s2 hz',m2 (Aet (λe v he=>AGL he d v) hz')]
  . have hne:(OE 0 (BN v [105,100]).1 !=0)=true:=by grind
    rw[ah (show(OE 0 (BN v [105,100]).1 !=0)=true\/((I4 (BN v [105,100]).1.text).2 !=0)=true from .inl hne)]
    have h160:OE 0 (BN v [105,100]).1=160:=by
      unfold OE M5 at he⊢;split
      . rfl
      . rename_i k;rw[ae k]at he;exact absurd rfl he
    rw[h160]
    have a1:(Vz 160 (BN v kAk) false).2=160:=by
      unfold Vz;split
      . rw[dV,ae fB];grind[ARp,AGB]
      . rfl
    have c1: ∀g,(RB 160 g).2=160:=λg=>by grind[RB,ARz]
    have sq: ∀ {α:Type}{f:Int->ApiValue->α×Int} (hf: ∀e v,e≠0->(f e v).2=e) (l:List ApiValue) (acc:List α),(Nb f l 160 acc).2=160:=λhf l acc=>ASm hf fB l acc
    rw[a1,c1,AUO fB,sq (λe v he=>AfG he d v),AUO fB,sq (λe v he=>Af0 he d v),ah fB]
end
end Go.VM
namespace Go.VM
section
variable{N:Nat}
def Ky:B8:=[119,101,98]
def hp0:ApiHostPort:=⟨[],0⟩
def Dr (N:Nat) (d:ApiDID):ApiHostPort×Int:=if(d.method==Ky)=false then(hp0,100) else if((I4 (Gy d)).2 !=0)=true then(hp0,(I4 (Gy d)).2) else hpS (Ac N (AR 58 d.iD).1).1
theorem XQ (i:B8):preB [100,105,100,58] (Gy ⟨Ky,i⟩)=true/\AR 58 ((Gy ⟨Ky,i⟩).drop 4)=(Ky,i,true)/\(Gy ⟨Ky,i⟩).length=i.length+8:=by have h4:(Gy ⟨Ky,i⟩).drop 4=Ky++58::i:=rfl;refine⟨rfl,?_,by grind[Gy,Ky]⟩;rw[h4,Gt fA];rfl
def AfT{i:B8} (h:(I4 (Gy ⟨Ky,i⟩)).2=0):(P5 i).2=0/\i.length<=4088:=by
 obtain⟨h1,h2,h3⟩:=XQ i;unfold I4 at h;rw[h1,h2]at h;split at h;·cases h
 rename_i hl;rw[h3]at hl;rw[ae fB]at h;simp only[dM,au]at h;rw[ae fB]at h;grind
def AoL{i:B8} (h:(P5 i).2=0): ∃us,unS i=some us/\us.all Uw=true:=by
 unfold P5 at h;cases hu:unS i with
 |none=>grind
 | some us=>
  rw[hu]at h;simp only at h;split at h;·rename_i hk;exact⟨us,rfl,hk⟩
  ·cases h
def ABp (c:UInt8) (l:B8):(AX c l)[0]?=some (AR c l).1:=by rw[M9];split<;>rfl
def AXF{i:B8} (h:(P5 i).2=0) (hb:i.length<=16000) (hN:20000<=N):((Ac N (AR 58 i).1).2 !=0)=false:=by obtain⟨us,hu,_⟩:=AoL h;obtain⟨_,r2⟩:=ALR (N:=N) hN i.length i (aw _) hb;obtain⟨q1,_⟩:=r2 us hu;have hm:(AR 58 i).1∈AX 58 i:=List.mem_of_getElem? (ABp 58 i);grind[Uz,bne]
def AFD (d:ApiDID) (hm:d.method.length<=4096) (hi:d.iD.length<=16000) (hN:20000<=N):Ii N d=some (Dr N d):=by
 have hc:=FP 58 d.iD;have hdl:=J6 (N:=N) (AR 58 d.iD).1;have hfl:(Gy d).length<=100000:=by unfold Gy;simp;omega
 unfold Ii Dr;change (if(d.method==Ky)=true then _ else _)=_;cases hw:(d.method==Ky);·rfl
 rw[ah rfl,ae (by decide: ¬(true=false)),QK d fy,aa,AAJ _ fy hN,aa];by_cases h:((I4 (Gy d)).2 !=0)=true;·rw[ah h,ah h];rfl
 have hd:d=⟨Ky,d.iD⟩:=by have:=bA.1 hw;cases d;simp only at this;rw[this]
 have h0:(I4 (Gy ⟨Ky,d.iD⟩)).2=0:=by rw[<-hd];simpa using h
 obtain⟨k1,k2⟩:=AfT h0;rw[ae h,ae h,Ml 58 _ fy,aa,P6 _ hN,aa,AXF k1 fy hN,ae fB,Ab5 _ fy fy,aa]
def AE1 (d:ApiDID) (hm:d.method.length<=4096) (hi:d.iD.length<=16000) (hN:20000<=N):ND N d=some (if(d.method==Ky)=false then([],hp0,100)else if((I4 (Gy d)).2 !=0)=true then([],hp0,(I4 (Gy d)).2)else(AX 58 d.iD,(Dr N d).1,(Dr N d).2)):=by
 have hc:=FP 58 d.iD;have hdl:=J6 (N:=N) (AR 58 d.iD).1;have hfl:(Gy d).length<=100000:=by unfold Gy;simp;omega
 unfold ND;change (if(d.method==Ky)=true then _ else _)=_;cases hw:(d.method==Ky);·rfl
 rw[ah rfl,ae (by decide: ¬(true=false)),QM d fy,aa,Wl _ fy hN,aa];by_cases h:((I4 (Gy d)).2 !=0)=true;·rw[ah h,ah h];rfl
 rw[ae h,ae h,show(58:Int)=AC 58 from rfl,Pg _ 58 fy,aa,show(0:Int)=((0:Nat):Int)from rfl,Jt,ABp,aa,OH _ hN,aa,AgQ _ fy,aa];unfold Dr;rw[ae (by rw[hw];decide),ae h]
def AYO (d:ApiDID) (hm:d.method.length<=4096) (hi:d.iD.length<=16000) (hN:20000<=N):Kb N d=some (Dr N d):=by
 unfold Kb;rw[AE1 d hm hi hN,aa];unfold Dr;split;·rfl
 split;·rfl
 ·rfl
def upT (N:Nat) (x:B8):B8:=47::(Ac N x).1.flatMap (Lr [])
def upB (N:Nat) (x:B8):Bool:=(Ac N x).1==[]||((Ac N x).1==[46]||(Ac N x).1==[46,46])
def APs{s:B8} (hN:20000<=N) (h:((Ac N s).2 !=0)=true):(Ac N s).1=[]:=by
 unfold Ac at *;split;·rfl
 ·rename_i hs;rw[ae hs,Yr N s [] fy]at h;grind[Yr,F5,absurd]
def Ap6 (e:Int) (x:B8) (hb:x.length<=100000) (hN:20000<=N):KE N ⟨e⟩ x=some (upT N x,⟨if upB N x=true then 110 else e⟩):=by
 have hd:=J6 (N:=N) x;have he:=QZ [] (Ac N x).1;have hg: ∀v:Option (B8×DidwebMapper),grd (AL (([47]:B8).length+((Ac N x).1.flatMap (Lr [])).length)) v=v:=λv=>BS (by simp only[ag,ap];omega);unfold KE upB upT;rw[P6 _ hN,aa];dsimp only[AA];rw[Vs _ _ fy];simp only[aa,hg];by_cases h:((Ac N x).2 !=0)=true;·rw[ah h,APs hN h];rfl
 ·rw[ae h];cases ((Ac N x).1==[])<;>cases ((Ac N x).1==[46])<;>cases ((Ac N x).1==[46,46])<;>rfl
end
end Go.VM
namespace Go.VM
section
variable{N:Nat}
def AIG (x:B8):(upT N x).length<=3 * x.length+1:=by grind[J6,QZ,Ac,upT,List.length_cons]
def wS (xs:List B8):Nat:=(xs.map List.length).sum+xs.length
theorem QW (x:B8) (xs:List B8):wS (x::xs)=x.length+1+wS xs:=by grind[wS]
def WM (xs:List B8):wS (xs.drop 1)<=wS xs:=by cases xs with |nil=>simp|cons x xs=>rw[QW];simp only[dC,aY];omega
def UF (c:UInt8) (l:B8):wS (AX c l)=l.length+1:=ARk c _ l (aw _)
def AAK: ∀xs:List B8,(xs.flatMap (upT N)).length<=3 * wS xs |[]=>by simp| x::xs=>by have:=AIG (N:=N) x;have:=AAK xs;rw[aN,an,QW];omega
def XO (hN:20000<=N) (k:Bool×B8×DidwebMapper->Option (B8×DidwebMapper)): ∀(xs:List B8) (d:Bool) (b:B8) (e:Int),b.length+3 * wS xs<=300000->A8 N k xs d b ⟨e⟩=k (d||!xs.isEmpty,b++xs.flatMap (upT N),⟨if xs.any (upB N)=true then 110 else e⟩) | [],d,b,e,_=>by rw[A8];simp| x::xs,d,b,e,h=>by have hu:=AIG (N:=N) x;rw[QW]at h;rw[A8,Ap6 _ _ fy hN,aa];dsimp only;rw[Sw _ _ _ fy,aa];dsimp only;rw[XO hN k xs _ _ _ (by rw[an];omega),aN,bT,aP];cases upB N x<;>cases xs.any (upB N)<;>simp
def AUV (xs:List B8) (e:Int) (h:wS xs<=100000) (hN:20000<=N):Dw N xs ⟨e⟩=some (xs.flatMap (upT N),⟨if xs.any (upB N)=true then 110 else e⟩):=by
 unfold Dw;dsimp only[AA];have:xs.length<=wS xs:=by unfold wS;omega
 rw[BS fy,XO hN _ _ _ _ _ fC];rfl
def PE:B8:=[47,46,119,101,108,108,45,107,110,111,119,110,47,100,105,100,46,106,115,111,110]
def ATg:B8:=[47,100,105,100,46,106,115,111,110]
def Kq (N:Nat) (xs:List B8):B8:=if xs=[]then PE else xs.flatMap (upT N)++ATg
def Gs (h:B8) (p:Int) (path:B8):ApiURL:=⟨h,p,path,[],[],false,false⟩
def toS (N:Nat) (d:ApiDID):ApiURL×Int:=if((Dr N d).2 !=0)=true then(Oy,(Dr N d).2) else if((AX 58 d.iD).drop 1).any (upB N)=true then(Oy,110) else if(O8 (Gs (Dr N d).1.host (Dr N d).1.port (Kq N ((AX 58 d.iD).drop 1)))).length>4096 then(Oy,5) else(Gs (Dr N d).1.host (Dr N d).1.port (Kq N ((AX 58 d.iD).drop 1)),0)
def Rl (d:ApiDID):Kv (Dr N d).1.port/\(Dr N d).1.host.length<=253:=by grind[Dr,Kv,hp0,AJq,AAU]
def AB5 (xs:List B8):(Kq N xs).length<=3 * wS xs+21:=by
 have:=AAK (N:=N) xs;unfold Kq;split;·simp[PE]
 ·simp[ATg]at *;omega
def AVn{l:List B8} (h:l≠ []) (hb:l.length<=1000000):sub l 1 (l.length:Int)=some (l.drop 1):=by have:0<l.length:=bB.2 h;rw[show(1:Int)=((1:Nat):Int)from rfl,BB l 1 l.length fy (aw _),aM fA]
def AkL (d:ApiDID) (hm:d.method.length<=4096) (hi:d.iD.length<=16000) (hN:20000<=N):NW N d=some (toS N d):=by
 have hsl:=Jf 58 d.iD;have hne:=Eu 58 d.iD;have hw:=UF 58 d.iD;have hw1:=WM (AX 58 d.iD);obtain⟨a1,a2⟩:=Rl (N:=N) d;have hpl:=AB5 (N:=N) ((AX 58 d.iD).drop 1);unfold NW toS;rw[AFD d hm hi hN,aa];by_cases h:((Dr N d).2 !=0)=true;·rw[ah h,ah h];rfl
 rw[ae h,ae h,YV _ 58 fy];dsimp only[AA];rw[aa,AVn hne fy,aa];generalize (AX 58 d.iD).drop 1=xs at *;have fin: ∀P:B8,P.length<=1000000->((GA N (ApiURL.mk (Dr N d).1.host (Dr N d).1.port P [] [] false false)).bind λy12=>if(decide ((y12.length:Int)>4096))=true then (some ((ApiURL.mk [] 0 [] [] [] false false),5):Option (ApiURL×Int)) else some ((ApiURL.mk (Dr N d).1.host (Dr N d).1.port P [] [] false false),0))=some (if(O8 (Gs (Dr N d).1.host (Dr N d).1.port P)).length>4096 then(Oy,5)else(Gs (Dr N d).1.host (Dr N d).1.port P,0)):=by
  intro P hP;rw[Wy _ ⟨a1,by dsimp only;omega,by dsimp only;omega,fA,fA⟩ fy,aa];unfold Gs;split;·rename_i AQ;rw[ah (by simp only[aq]at AQ;omega)];rfl
  ·rename_i AQ;rw[ae (by simp only[aq]at AQ;omega)]
 have hul:=AAK (N:=N) xs;cases xs with
 | nil=>rw[ae fB];exact fin PE fB
 | cons x xs=>
  rw[ah fA,AUV _ _ fy hN,aa,BS (by simp only[an,ag,ap];omega),BS (by simp only[an,ag,ap];omega)];by_cases hb:(x::xs).any (upB N)=true;·rw[ah hb,ah hb];rfl
  ·rw[ae hb,ae hb];dsimp only;rw[ae fB];have e:((x::xs).flatMap (upT N)++[47])++[100,105,100,46,106,115,111,110]=Kq N (x::xs):=by unfold Kq ATg;rw[ae fA,aP];rfl
   rw[<-e]at hpl;rw[fin _ fy,e]
theorem AM2 (hN:20000<=N) (k:B8->Option (ApiURL×Int)): ∀(xs:List B8) (acc:B8),acc.length+3 * wS xs<=300000->GN N k xs acc=if xs.any (upB N)=true then some (Oy,110)else k (acc++xs.flatMap (upT N)) |[],acc,_=>by rw[GN];simp| x::xs,acc,h=>by have hu:=AIG (N:=N) x;have hd:=J6 (N:=N) x;have he:=QZ [] (Ac N x).1;rw[QW]at h;rw[GN,OH _ hN,aa];dsimp only[AA];rw[S9 _ _ fA fy];have ih:=AM2 hN k xs (acc++([47]++(Ac N x).1.flatMap (Lr []))) (by simp only[an,ag,ap];omega);have hg: ∀v:Option (ApiURL×Int),grd (AL (([47]:B8).length+((Ac N x).1.flatMap (Lr [])).length)) v=v:=λv=>BS (by simp only[ag,ap];omega);have hg2: ∀v:Option (ApiURL×Int),grd (AL (acc.length+(([47]:B8)++(Ac N x).1.flatMap (Lr [])).length)) v=v:=λv=>BS (by simp only[an,ag,ap];omega);have hup:upT N x=[47]++(Ac N x).1.flatMap (Lr []):=rfl;rw[bT,aN,hup,<-aP];rw[aa,hg,hg2,ih];unfold upB;cases ((Ac N x).1==[])<;>cases ((Ac N x).1==[46])<;>cases ((Ac N x).1==[46,46])<;>rfl
def AjF (d:ApiDID) (hm:d.method.length<=4096) (hi:d.iD.length<=16000) (hN:20000<=N):Og N d=some (toS N d):=by
 have hsl:=Jf 58 d.iD;have hne:=Eu 58 d.iD;have hw:=UF 58 d.iD;have hw1:=WM (AX 58 d.iD);obtain⟨a1,a2⟩:=Rl (N:=N) d;have hpl:=AB5 (N:=N) ((AX 58 d.iD).drop 1);unfold Og toS;rw[AE1 d hm hi hN,aa];by_cases h1:(d.method==Ky)=false
 ·have e:Dr N d=(hp0,100):=by unfold Dr;rw[ah h1]
  rw[ah h1,e];rfl
 by_cases h2:((I4 (Gy d)).2 !=0)=true
 ·have e:Dr N d=(hp0,(I4 (Gy d)).2):=by unfold Dr;rw[ae h1,ah h2]
  rw[ae h1,ah h2,e];dsimp only;rw[ah h2,ah h2];rfl
 rw[ae h1,ae h2];dsimp only;by_cases h:((Dr N d).2 !=0)=true;·rw[ah h,ah h];rfl
 rw[ae h,ae h];dsimp only[AA];rw[AVn hne fy,aa];have hone:((((AX 58 d.iD).length:Nat):Int)==1)=decide ((AX 58 d.iD).drop 1=[]):=by
  have:0<(AX 58 d.iD).length:=bB.2 hne;by_cases hq:(AX 58 d.iD).drop 1=[];·have:=d7.1 hq;rw[aA hq];simp;omega
  ·rw[aO hq];have: ¬(AX 58 d.iD).length<=1:=λhh=>hq (d7.2 hh);simp;omega
 rw[hone];generalize (AX 58 d.iD).drop 1=xs at *;have hxl:xs.length<=wS xs:=by unfold wS;omega
 have hul:=AAK (N:=N) xs;rw[BS fy,AM2 hN _ _ _ fC];by_cases hb:xs.any (upB N)=true;·rw[ah hb,ah hb]
 rw[ae hb,ae hb,bc];have fin: ∀Q:B8,Q++ATg=Kq N xs->(grd (AL (Q.length+([47,100,105,100,46,106,115,111,110]:B8).length)) ((GG N (ApiURL.mk (Dr N d).1.host (Dr N d).1.port (Q++([47,100,105,100,46,106,115,111,110]:B8)) [] [] false false)).bind λy12=>if(decide ((y12.length:Int)>4096))=true then (some ((ApiURL.mk [] 0 [] [] [] false false),5):Option (ApiURL×Int)) else some ((ApiURL.mk (Dr N d).1.host (Dr N d).1.port (Q++([47,100,105,100,46,106,115,111,110]:B8)) [] [] false false),0)))=some (if(O8 (Gs (Dr N d).1.host (Dr N d).1.port (Kq N xs))).length>4096 then(Oy,5)else(Gs (Dr N d).1.host (Dr N d).1.port (Kq N xs),0)):=by
  intro Q hQ;change grd _ ((GG N (ApiURL.mk (Dr N d).1.host (Dr N d).1.port (Q++ATg) [] [] false false)).bind λy12=>if(decide ((y12.length:Int)>4096))=true then (some ((ApiURL.mk [] 0 [] [] [] false false),5):Option (ApiURL×Int)) else some ((ApiURL.mk (Dr N d).1.host (Dr N d).1.port (Q++ATg) [] [] false false),0))=_;have hl:=a8 List.length hQ;rw[an]at hl;rw[BS fC,hQ,XJ _ ⟨a1,by dsimp only;omega,by dsimp only;omega,fA,fA⟩ fy,aa];unfold Gs;split;·rename_i AQ;rw[ah (by simp only[aq]at AQ;omega)];rfl
  ·rename_i AQ;rw[ae (by simp only[aq]at AQ;omega)]
 by_cases hq:xs=[];·subst hq;rw[ah fA];exact fin [47,46,119,101,108,108,45,107,110,111,119,110] (by unfold Kq;rw[ah rfl];rfl)
 ·rw[ae (by simpa using hq)];exact fin _ (by unfold Kq;rw[ae hq])
end
end Go.VM
