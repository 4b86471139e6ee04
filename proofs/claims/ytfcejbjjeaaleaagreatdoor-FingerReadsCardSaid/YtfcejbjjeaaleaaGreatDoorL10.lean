import Derived.Test.YtfcejbjjeaaleaaGreatDoorL9
set_option linter.defProp false
set_option linter.unusedVariables false
set_option linter.unusedSimpArgs false
namespace Go.VM
section
variable{N:Nat}{l:B8}
inductive okT:ApiValue->Prop |mk (v:ApiValue) (ht:v.text.length<=100000) (hk:v.keys.length<=900000) (hi:v.items.length<=900000) (h: ∀x,x∈v.items->okT x):okT v
def okT.text{v:ApiValue}:okT v->v.text.length<=100000|.mk _ h _ _ _=>h
def okT.keys{v:ApiValue}:okT v->v.keys.length<=900000|.mk _ _ h _ _=>h
def okT.items{v:ApiValue}:okT v->v.items.length<=900000|.mk _ _ _ h _=>h
theorem okT.sub{v:ApiValue}:okT v-> ∀x,x∈v.items->okT x|.mk _ _ _ _ h=>h
theorem Ut:okT zeroV:=.mk _ (by simp[zeroV]) (by simp[zeroV]) (by simp[zeroV]) (by simp[zeroV])
def YS{v:ApiValue} (h:okT v) (key:B8):okT (DV v key).1:=by
 rcases AQN v key with e|e;·exact h.sub _ e
 grind[Ut]
def NY (p:Ref14Parser) (i e:Int):Ref14Parser:=if p.fail==0 then Ref14Parser.mk p.s p.at_ p.nodes e i else p
def Gn (p:Ref14Parser) (i e:Int):BC N p i e=some (NY p i e):=by unfold BC NY;split<;>rfl
def NZ (t:ApiToken) (c:B8):IR N t c=some (t.kind==2&&t.text==c):=by unfold IR;cases t.kind==2<;>simp
structure PIPprs (l:B8) (p:Ref14Parser):Prop where
  s:p.s=l
  lo:0<=p.at_
  hi:p.at_<=l.length
def PIPprs.stop{p:Ref14Parser} (h:PIPprs l p) (i e:Int):PIPprs l (NY p i e):=by
 unfold NY;split;·exact⟨h.s,h.lo,h.hi⟩
 omega
theorem Iu (p:Ref14Parser) (i e:Int):(NY p i e).at_=p.at_:=by unfold NY;split<;>rfl
def Rw (p:Ref14Parser) (i e:Int) (he:e≠0):(NY p i e).fail≠0:=by grind[NY]
structure NXPprs (l:B8) (p:Ref14Parser) (r:ApiToken×Ref14Parser):Prop where
  pi:PIPprs l r.2
  le:p.at_<=r.2.at_
  txt:r.1.text.length<=4 * l.length
  on:r.2.fail=0->p.fail=0/\(r.1.kind≠1->p.at_<r.2.at_)
def H9 (hb:l.length<=100000) (hN:l.length+10<=N) (p:Ref14Parser) (h:PIPprs l p):Ok (BB N p) (NXPprs l p):=by
 unfold BB;refine Ok.ite (λhf=>Ok.ret ⟨h,bu _,fH,λe=>by grind⟩) (λhf=>?_);have hf0:p.fail=0:=by grind
 rw[h.s];refine Ok.join (Ok.bind (AmM l p.at_ h.lo h.hi fG hN) λy hy=>?_);refine Ok.ite (λhe=>?_) (λhe=>?_)
 ·rw[Gn,aa];have he':y.2.2≠0:=by grind
  exact Ok.ret ⟨h.stop _ _,by rw[Iu];omega,fH,λe=>absurd e (Rw _ _ _ he')⟩
 ·obtain⟨a1,a2,a3,a4⟩:=hy.good (by grind);exact Ok.ret ⟨⟨rfl,by have:=h.lo;grind,a2⟩,a1,a3,λ_=>⟨hf0,a4⟩⟩
structure VRPprs (l:B8) (p:Ref14Parser) (r:ApiValue×Ref14Parser):Prop where
  v:okT r.1
  pi:PIPprs l r.2
  le:p.at_<=r.2.at_
def Lv (l:B8) (p:Ref14Parser):Nat:=if p.fail=0 then l.length-p.at_.toNat+2 else 1
theorem QG (p:Ref14Parser):1<=Lv l p:=by unfold Lv;split<;>omega
def WG{p q:Ref14Parser} (hp:PIPprs l p) (hf:p.fail=0) (hq:PIPprs l q) (h:q.fail=0->p.at_<q.at_):Lv l q+1<=Lv l p:=by have:=hp.lo;have:=hp.hi;have:=hq.hi;unfold Lv;rw[ah hf];grind
def AXm{items:List ApiValue} (kind:Int) (hl:items.length<=900000) (h: ∀x,x∈items->okT x):okT (ApiValue.mk kind [] [] items):=.mk _ fH fH hl h
def Yu (hb:l.length<=100000) (hN:l.length+10<=N) (d:Int) (rc:Ref14Parser->ApiToken->Int->Option (ApiValue×Ref14Parser)) (hrc: ∀p t,PIPprs l p->t.text.length<=4 * l.length->Ok (rc p t d) (VRPprs l p)) (p0:Ref14Parser): ∀(k:Nat) (t:ApiToken) (items:List ApiValue) (p:Ref14Parser),PIPprs l p->p0.at_<=p.at_->t.text.length<=4 * l.length->(∀x,x∈items->okT x)->Lv l p<=k->items.length+Lv l p<=200000->Ok (CW N d rc (λj5=>some (ApiValue.mk 6 [] [] j5.2.1,j5.2.2)) k t items p) (VRPprs l p0)
 |0,t,items,p,_,_,_,_,h,_=>by grind[QG]
 | k+1,t,items,p,hp,hle,ht,hi,hk,hB=>by
  rw[CW];have hpos:=QG (l:=l) p;refine Ok.ite (λhf=>?_) (λ_=>Ok.ret ⟨AXm _ (by grind) hi,hp,hle⟩);have hf0:p.fail=0:=by grind
  refine Ok.join (Ok.bind (hrc p t hp ht) λy14 h14=>Ok.grd (TF fG fG) ?_);refine Ok.bind (H9 hb hN y14.2 h14.pi) λy16 h16=>?_;rw[NZ,aa];have hitems: ∀x,x∈items++[y14.1]->okT x:=λx hx=>by
   rcases aY.1 hx with hx|hx;·grind
   ·simp at hx;rw[hx];exact h14.v
  have a1:=h14.le;have a2:=h16.le;refine Ok.ite (λ_=>Ok.ret ⟨AXm _ (by grind) hitems,h16.pi,by grind⟩) (λ_=>?_);refine Ok.meet (λj:Ref14Parser=>PIPprs l j/\p.at_<=j.at_/\(j.fail=0->p.at_<j.at_)) (λj hj=>?_) (λk21 h21=>?_);·refine Ok.bind (H9 hb hN j hj.1) λy32 h32=>?_;have a3:=h32.le;have hl:=WG hp hf0 h32.pi (λe=>by have:=hj.2.2 (h32.on e).1;omega);exact Yu hb hN d rc hrc p0 k y32.1 _ y32.2 h32.pi fG h32.txt hitems fG (by grind)
  ·refine Ok.meet (λb:Bool=>b=false->y16.2.fail=0->p.at_<y16.2.at_) (λb hb'=>?_) (λk25 h25=>?_);·refine Ok.ite (λ_=>?_) (λhf=>h21 _ ⟨h16.pi,fG,hb' hf⟩);rw[Gn,aa];exact h21 _ ⟨h16.pi.stop _ _,by grind[Iu],λe=>absurd e (Rw _ _ _ fI)⟩
   ·refine Ok.ite (λhz=>?_) (λhz=>h25 _ (λ_ e=>by grind));rw[NZ,aa];refine h25 _ (λhc e=>?_);have hk2:y16.1.kind=2:=by simp_all
    have:=(h16.on e).2 fG;omega
def YY (hb:l.length<=100000) (hN:l.length+10<=N) (d:Int) (rc:Ref14Parser->ApiToken->Int->Option (ApiValue×Ref14Parser)) (hrc: ∀p t,PIPprs l p->t.text.length<=4 * l.length->Ok (rc p t d) (VRPprs l p)) (p0:Ref14Parser): ∀(k:Nat) (t:ApiToken) (keys:List B8) (items:List ApiValue) (p:Ref14Parser),PIPprs l p->p0.at_<=p.at_->t.text.length<=4 * l.length->(∀x,x∈items->okT x)->Lv l p<=k->items.length+Lv l p<=200000->keys.length=items.length->Ok (Bw N d rc (λj5=>some (ApiValue.mk 7 [] j5.2.1 j5.2.2.1,j5.2.2.2)) k t keys items p) (VRPprs l p0)
 |0,t,keys,items,p,_,_,_,_,h,_,_=>by grind[QG]
 | k + 1,t,keys,items,p,hp,hle,ht,hi,hk,hB,hkl=>by
  rw[Bw];have hpos:=QG (l:=l) p;have okO: ∀(ks:List B8) (xs:List ApiValue),ks.length<=900000->xs.length<=900000->(∀x,x∈xs->okT x)->okT (ApiValue.mk 7 [] ks xs):=λks xs h1 h2 h3=>.mk _ fH h1 h2 h3;refine Ok.ite (λhf=>?_) (λ_=>Ok.ret ⟨okO _ _ (by grind) (by grind) hi,hp,hle⟩);have hf0:p.fail=0:=by grind
  refine Ok.meet (λj:Ref14Parser=>PIPprs l j/\p.at_<=j.at_) (λj10 h10=>?_) (λk11 h11=>?_)
  ·refine Ok.meet (λj:Ref14Parser=>PIPprs l j/\p.at_<=j.at_) (λj16 h16=>?_) (λk17 h17=>?_)
   ·refine Ok.meet (λj:ApiToken×Ref14Parser=>PIPprs l j.2/\p.at_<=j.2.at_) (λj24 h24=>?_) (λk25 h25=>?_)
    ·refine Ok.bind (H9 hb hN j24.2 h24.1) λy38 h38=>?_;refine Ok.bind (hrc y38.2 y38.1 h38.pi h38.txt) λy40 h40=>Ok.grd (TF fG fG) (Ok.grd (TF fG fG) ?_);refine Ok.bind (H9 hb hN y40.2 h40.pi) λy42 h42=>?_;rw[NZ,aa];have hitems: ∀x,x∈items++[y40.1]->okT x:=λx hx=>by
      rcases aY.1 hx with hx|hx;·grind
      ·simp at hx;rw[hx];exact h40.v
     have a0:=h24.2;have a1:=h38.le;have a2:=h40.le;have a3:=h42.le;refine Ok.ite (λ_=>Ok.ret ⟨okO _ _ (by grind) (by grind) hitems,h42.pi,by grind⟩) (λ_=>?_);refine Ok.meet (λj:Ref14Parser=>PIPprs l j/\p.at_<=j.at_/\(j.fail=0->p.at_<j.at_)) (λj hj=>?_) (λk47 h47=>?_);·refine Ok.bind (H9 hb hN j hj.1) λy58 h58=>?_;have a4:=h58.le;have hl:=WG hp hf0 h58.pi (λe=>by have:=hj.2.2 (h58.on e).1;omega);exact YY hb hN d rc hrc p0 k y58.1 _ _ y58.2 h58.pi fG h58.txt hitems fG (by grind) (by grind)
     ·refine Ok.meet (λb:Bool=>b=false->y42.2.fail=0->p.at_<y42.2.at_) (λb hb'=>?_) (λk51 h51=>?_);·refine Ok.ite (λ_=>?_) (λhf=>h47 _ ⟨h42.pi,fG,hb' hf⟩);rw[Gn,aa];exact h47 _ ⟨h42.pi.stop _ _,by grind[Iu],λe=>absurd e (Rw _ _ _ fI)⟩
      ·refine Ok.ite (λhz=>?_) (λhz=>h51 _ (λ_ e=>by grind));rw[NZ,aa];refine h51 _ (λhc e=>?_);have hk2:y42.1.kind=2:=by simp_all
       have:=(h42.on e).2 fG;omega
    ·refine Ok.bind (H9 hb hN j16 h16.1) λy28 h28=>?_;have a1:=h28.le;have a2:=h16.2;refine Ok.meet (λ_:Bool=>True) (λb _=>Ok.ite (λ_=>?_) (λ_=>h25 _ ⟨h28.pi,by grind⟩)) (λk31 h31=>Ok.ite (λ_=>by rw[NZ,aa];grind) (λ_=>h31 _ trivial));rw[Gn,aa];exact h25 _ ⟨h28.pi.stop _ _,by grind[Iu]⟩
   ·rw[AH5 _ _ (by grind),aa];refine Ok.ite (λ_=>?_) (λ_=>h17 _ h10);rw[Gn,aa];exact h17 _ ⟨h10.1.stop _ _,by grind[Iu]⟩
  ·refine Ok.ite (λ_=>?_) (λ_=>h11 _ ⟨hp,bu _⟩);rw[Gn,aa];exact h11 _ ⟨hp.stop _ _,by rw[Iu];omega⟩
def AOF (t:B8):Ok (Ow N t) (λ_=>True):=by unfold Ow;exact Ok.ite (λ_=>Ok.ret trivial) (λ_=>Ok.ite (λ_=>Ok.ret trivial) (λ_=>Ok.ret trivial))
def WJ (hb:l.length<=10000) (hN:4 * l.length+1000<=N): ∀D:Nat,(∀(p:Ref14Parser) (t:ApiToken) (d:Int),PIPprs l p->t.text.length<=4 * l.length->0<=d->d<=64->2 * (64-d)+2<=D->Ok (BK N D p t d) (VRPprs l p))/\(∀(p:Ref14Parser) (d:Int),PIPprs l p->0<=d->d<=64->2 * (64-d)+3<=D->Ok (D8 N D p d) (VRPprs l p))/\(∀(p:Ref14Parser) (d:Int),PIPprs l p->0<=d->d<=64->2 * (64-d)+3<=D->Ok (Db N D p d) (VRPprs l p))
 |0=>⟨λp t d _ _ _ _ h=>by omega,λp d _ _ _ h=>by omega,λp d _ _ _ h=>by omega⟩
 | D+1=>by
  obtain⟨ihv,iha,iho⟩:=WJ hb hN D;have hleft: ∀q:Ref14Parser,Lv l q<=l.length+2:=λq=>by unfold Lv;split<;>omega
  refine⟨λp t d hp ht h0 h64 hD=>?_,λp d hp h0 h64 hD=>?_,λp d hp h0 h64 hD=>?_⟩
  ·rw [BK];simp only[NZ,aa];have z: ∀q,PIPprs l q->p.at_<=q.at_->Ok (some (ApiValue.mk 0 [] [] [],q)) (VRPprs l p):=λq h1 h2=>Ok.ret ⟨Ut,h1,h2⟩;refine Ok.meet (λ_:Bool=>True) (λb _=>?_) (λk2 h2=>?_)
   ·refine Ok.ite (λ_=>z p hp (bu _)) (λ_=>Ok.ite (λ_=>?_) (λ_=>?_))
    ·refine Ok.meet (λb:Bool=>b=false->t.kind=2->d<64) (λb hb'=>?_) (λk10 h10=>?_)
     ·refine Ok.ite (λ_=>?_) (λhf=>?_);·rw[Gn,aa];exact z _ (hp.stop _ _) (by rw[Iu];omega)
      ·have hd:=hb' hf;refine Ok.meet (λj:Int×B8×Ref14Parser=>PIPprs l j.2.2/\p.at_<=j.2.2.at_/\j.2.1.length<=100000) (λj hj=>?_) (λk16 h16=>?_)
       ·refine Ok.meet (λq:B8×Int×Int×Int×Int=>PIPprs l (Ref14Parser.mk q.1 q.2.1 q.2.2.1 q.2.2.2.1 q.2.2.2.2)/\p.at_<=q.2.1) (λq hq=>?_) (λk28 h28=>?_)
        ·refine Ok.ite (λ_=>Ok.bind (AOF _) λy _=>Ok.ret ⟨.mk _ fH fH fH fH,hq.1,hq.2⟩) (λ_=>?_);refine Ok.ite (λhc=>?_) (λ_=>Ok.ite (λhc=>?_) (λ_=>Ok.ret ⟨.mk _ hj.2.2 fH fH fH,hq.1,hq.2⟩))
         ·have hk:t.kind=2:=by simp_all
          have:=hd hk;rw[AO (n:=d+1) fG];refine Ok.bind (iha _ (d+1) hq.1 fG fG fG) λy hy=>Ok.ret ⟨hy.v,hy.pi,?_⟩;exact fh hq.2 hy.le
         ·have hk:t.kind=2:=by simp_all
          have:=hd hk;rw[AO (n:=d+1) fG];refine Ok.bind (iho _ (d+1) hq.1 fG fG fG) λy hy=>Ok.ret ⟨hy.v,hy.pi,?_⟩;exact fh hq.2 hy.le
        ·have hm:PIPprs l (Ref14Parser.mk j.2.2.s j.2.2.at_ (wr .i64 (j.2.2.nodes+1)) j.2.2.fail j.2.2.where_):=⟨hj.1.s,hj.1.lo,hj.1.hi⟩;refine Ok.ite (λ_=>?_) (λ_=>h28 _ ⟨hm,hj.2.1⟩);rw[Gn,aa];exact h28 _ ⟨hm.stop _ _,by grind[Iu]⟩
       ·refine Ok.ite (λ_=>?_) (λ_=>h16 _ ⟨hp,bu _,by grind⟩);refine Ok.bind (Aa6 t.text fG fG) λy hy=>?_;refine Ok.join (Ok.ite (λ_=>?_) (λ_=>h16 _ ⟨hp,bu _,by grind⟩));rw[Gn,aa];exact h16 _ ⟨hp.stop _ _,by simp only[Iu];omega,by grind⟩
     ·refine Ok.ite (λ_=>h10 _ (λhf _=>?_)) (λhk=>h10 _ (λ_ h=>by grind));grind
    ·rw[Gn,aa];exact z _ (hp.stop _ _) (by rw[Iu];omega)
   ·refine Ok.ite (λ_=>h2 _ trivial) (λ_=>Ok.ite (λ_=>h2 _ trivial) (λ_=>Ok.ite (λ_=>h2 _ trivial) (λ_=>Ok.ite (λ_=>h2 _ trivial) (λ_=>h2 _ trivial))))
  ·rw[D8];refine Ok.bind (H9 fG fG p hp) λy1 h1=>?_;rw[NZ,aa];refine Ok.ite (λ_=>Ok.ret ⟨.mk _ fH fH fH fH,h1.pi,h1.le⟩) (λ_=>?_);have:=hleft y1.2;exact Ok.join (Yu fG fG d (BK N D) (λq t hq ht=>ihv q t d hq ht h0 h64 fG) p N y1.1 [] y1.2 h1.pi h1.le h1.txt fH fG (by grind))
  ·rw[Db];refine Ok.bind (H9 fG fG p hp) λy1 h1=>?_;rw[NZ,aa];refine Ok.ite (λ_=>Ok.ret ⟨.mk _ fH fH fH fH,h1.pi,h1.le⟩) (λ_=>?_);have:=hleft y1.2;exact Ok.join (YY fG fG d (BK N D) (λq t hq ht=>ihv q t d hq ht h0 h64 fG) p N y1.1 [] [] y1.2 h1.pi h1.le h1.txt fH fG (by grind) rfl)
def AMT (hb:l.length<=10000) (hN:4 * l.length+1000<=N):Ok (MF N l) (λr=>okT r.1/\(r.2.2≠0->r.1=zeroV)):=by unfold MF;refine Ok.ite (λ_=>Ok.ret ⟨Ut,λ_=>rfl⟩) (λ_=>?_);have h0:PIPprs l (Ref14Parser.mk l 0 0 0 0):=⟨rfl,bu _,fH⟩;refine Ok.bind (H9 fG fG _ h0) λy1 h1=>?_;refine Ok.bind ((WJ hb hN N).1 y1.2 y1.1 0 h1.pi h1.txt fG fG fG) λy3 h3=>?_;refine Ok.join (Ok.bind (H9 fG fG y3.2 h3.pi) λy9 h9=>?_);have fin: ∀p:Ref14Parser,Ok (if(p.fail !=0)=true then some (ApiValue.mk 0 [] [] [],p.where_,p.fail)else some (y3.1,(l.length:Int),0)) (λr=>okT r.1/\(r.2.2≠0->r.1=zeroV)):=λp=>Ok.ite (λ_=>Ok.ret ⟨Ut,λ_=>rfl⟩) (λ_=>Ok.ret ⟨h3.v,fH⟩);refine Ok.join (Ok.ite (λ_=>Ok.ite (λ_=>?_) (λ_=>fin _)) (λ_=>Ok.ite (λh=>by cases h) (λ_=>fin _)));rw[Gn,aa];exact fin _
end
end Go.VM
namespace Go.VM
section
variable{N:Nat}
end
end Go.VM
namespace Go.VM
section
variable{N:Nat}
def La:B8:=[119,101,98]
def hp0:ApiHostPort:=⟨[],0⟩
def Dr (N:Nat) (d:ApiDID):ApiHostPort×Int:=if(d.method==La)=false then(hp0,100) else if((NR (MI d)).2 !=0)=true then(hp0,(NR (MI d)).2) else hpS (Af N (Ac 58 d.iD).1).1
theorem Ya (i:B8):preB [100,105,100,58] (MI ⟨La,i⟩)=true/\Ac 58 ((MI ⟨La,i⟩).drop 4)=(La,i,true)/\(MI ⟨La,i⟩).length=i.length+8:=by have h4:(MI ⟨La,i⟩).drop 4=La++58::i:=rfl;refine⟨rfl,?_,by grind[MI,La]⟩;rw[h4,HZ fH];rfl
def Ahz{i:B8} (h:(NR (MI ⟨La,i⟩)).2=0):(Q4 i).2=0/\i.length<=4088:=by
 obtain⟨h1,h2,h3⟩:=Ya i;unfold NR at h;rw[h1,h2]at h;split at h;·cases h
 rename_i hl;rw[h3]at hl;rw[ae fI]at h;simp only[dR,aq]at h;rw[ae fI]at h;grind
def AqG{i:B8} (h:(Q4 i).2=0): ∃us,unS i=some us/\us.all Vr=true:=by
 unfold Q4 at h;cases hu:unS i with
 |none=>grind
 | some us=>
  rw[hu]at h;simp only at h;split at h;·rename_i hk;exact⟨us,rfl,hk⟩
  ·cases h
def ACm (c:UInt8) (l:B8):(AU c l)[0]?=some (Ac c l).1:=by rw[NW];split<;>rfl
def AZ4{i:B8} (h:(Q4 i).2=0) (hb:i.length<=16000) (hN:20000<=N):((Af N (Ac 58 i).1).2 !=0)=false:=by obtain⟨us,hu,_⟩:=AqG h;obtain⟨_,r2⟩:=AJu (N:=N) hN i.length i (aw _) hb;obtain⟨q1,_⟩:=r2 us hu;have hm:(Ac 58 i).1∈AU 58 i:=List.mem_of_getElem? (ACm 58 i);grind[V3,bne]
def AFV (d:ApiDID) (hm:d.method.length<=4096) (hi:d.iD.length<=16000) (hN:20000<=N):I9 N d=some (Dr N d):=by
 have hc:=Ib 58 d.iD;have hdl:=KF (N:=N) (Ac 58 d.iD).1;have hfl:(MI d).length<=100000:=by unfold MI;simp;omega
 unfold I9 Dr;change (if(d.method==La)=true then _ else _)=_;cases hw:(d.method==La);·rfl
 rw[ah rfl,ae (by decide: ¬(true=false)),ACf d fG,aa,AXb _ fG hN,aa];by_cases h:((NR (MI d)).2 !=0)=true;·rw[ah h,ah h];rfl
 have hd:d=⟨La,d.iD⟩:=by have:=bE.1 hw;cases d;simp only at this;rw[this]
 have h0:(NR (MI ⟨La,d.iD⟩)).2=0:=by rw[<-hd];simpa using h
 obtain⟨k1,k2⟩:=Ahz h0;rw[ae h,ae h,Oo 58 _ fG,aa,Qn _ hN,aa,AZ4 k1 fG hN,ae fI,Agg _ fG fG,aa]
def AGU (d:ApiDID) (hm:d.method.length<=4096) (hi:d.iD.length<=16000) (hN:20000<=N):NV N d=some (if(d.method==La)=false then([],hp0,100)else if((NR (MI d)).2 !=0)=true then([],hp0,(NR (MI d)).2)else(AU 58 d.iD,(Dr N d).1,(Dr N d).2)):=by
 have hc:=Ib 58 d.iD;have hdl:=KF (N:=N) (Ac 58 d.iD).1;have hfl:(MI d).length<=100000:=by unfold MI;simp;omega
 unfold NV;change (if(d.method==La)=true then _ else _)=_;cases hw:(d.method==La);·rfl
 rw[ah rfl,ae (by decide: ¬(true=false)),ACJ d fG,aa,AXd _ fG hN,aa];by_cases h:((NR (MI d)).2 !=0)=true;·rw[ah h,ah h];rfl
 rw[ae h,ae h,show(58:Int)=AC 58 from rfl,QL _ 58 fG,aa,show(0:Int)=((0:Nat):Int)from rfl,Ji,ACm,aa,Ot _ hN,aa,Aef _ fG,aa];unfold Dr;rw[ae (by rw[hw];decide),ae h]
def Abq (d:ApiDID) (hm:d.method.length<=4096) (hi:d.iD.length<=16000) (hN:20000<=N):K8 N d=some (Dr N d):=by
 unfold K8;rw[AGU d hm hi hN,aa];unfold Dr;split;·rfl
 split;·rfl
 ·rfl
def upT (N:Nat) (x:B8):B8:=47::(Af N x).1.flatMap (MK [])
def upB (N:Nat) (x:B8):Bool:=(Af N x).1==[]||((Af N x).1==[46]||(Af N x).1==[46,46])
def ARd{s:B8} (hN:20000<=N) (h:((Af N s).2 !=0)=true):(Af N s).1=[]:=by
 unfold Af at *;split;·rfl
 ·rename_i hs;rw[ae hs,ZW N s [] fG]at h;grind[ZW,GG,absurd]
def Asp (e:Int) (x:B8) (hb:x.length<=100000) (hN:20000<=N):KV N ⟨e⟩ x=some (upT N x,⟨if upB N x=true then 110 else e⟩):=by
 have hd:=KF (N:=N) x;have he:=RG [] (Af N x).1;have hg: ∀v:Option (B8×DidwebMapper),grd (AL (([47]:B8).length+((Af N x).1.flatMap (MK [])).length)) v=v:=λv=>BV (by simp only[ag,ap];omega);unfold KV upB upT;rw[Qn _ hN,aa];dsimp only[AA];rw[XL _ _ fG];simp only[aa,hg];by_cases h:((Af N x).2 !=0)=true;·rw[ah h,ARd hN h];rfl
 ·rw[ae h];cases ((Af N x).1==[])<;>cases ((Af N x).1==[46])<;>cases ((Af N x).1==[46,46])<;>rfl
end
end Go.VM
namespace Go.VM
section
variable{N:Nat}
def AJP (x:B8):(upT N x).length<=3 * x.length+1:=by grind[KF,RG,Af,upT,List.length_cons]
def wS (xs:List B8):Nat:=(xs.map List.length).sum+xs.length
theorem RU (x:B8) (xs:List B8):wS (x::xs)=x.length+1+wS xs:=by grind[wS]
def Yp (xs:List B8):wS (xs.drop 1)<=wS xs:=by cases xs with |nil=>simp|cons x xs=>rw[RU];simp only[dJ,ba];omega
def Uk (c:UInt8) (l:B8):wS (AU c l)=l.length+1:=AU3 c _ l (aw _)
def ABR: ∀xs:List B8,(xs.flatMap (upT N)).length<=3 * wS xs |[]=>by simp| x::xs=>by have:=AJP (N:=N) x;have:=ABR xs;rw[aQ,an,RU];omega
def X4 (hN:20000<=N) (k:Bool×B8×DidwebMapper->Option (B8×DidwebMapper)): ∀(xs:List B8) (d:Bool) (b:B8) (e:Int),b.length+3 * wS xs<=300000->A8 N k xs d b ⟨e⟩=k (d||!xs.isEmpty,b++xs.flatMap (upT N),⟨if xs.any (upB N)=true then 110 else e⟩) | [],d,b,e,_=>by rw[A8];simp| x::xs,d,b,e,h=>by have hu:=AJP (N:=N) x;rw[RU]at h;rw[A8,Asp _ _ fG hN,aa];dsimp only;rw[Tv _ _ _ fG,aa];dsimp only;rw[X4 hN k xs _ _ _ (by rw[an];omega),aQ,bK,aF];cases upB N x<;>cases xs.any (upB N)<;>simp
def AWH (xs:List B8) (e:Int) (h:wS xs<=100000) (hN:20000<=N):D5 N xs ⟨e⟩=some (xs.flatMap (upT N),⟨if xs.any (upB N)=true then 110 else e⟩):=by
 unfold D5;dsimp only[AA];have:xs.length<=wS xs:=by unfold wS;omega
 rw[BV fG,X4 hN _ _ _ _ _ fJ];rfl
def Pw:B8:=[47,46,119,101,108,108,45,107,110,111,119,110,47,100,105,100,46,106,115,111,110]
def AVC:B8:=[47,100,105,100,46,106,115,111,110]
def Lc (N:Nat) (xs:List B8):B8:=if xs=[]then Pw else xs.flatMap (upT N)++AVC
def HV (h:B8) (p:Int) (path:B8):ApiURL:=⟨h,p,path,[],[],false,false⟩
def toS (N:Nat) (d:ApiDID):ApiURL×Int:=if((Dr N d).2 !=0)=true then(Pf,(Dr N d).2) else if((AU 58 d.iD).drop 1).any (upB N)=true then(Pf,110) else if(Pt (HV (Dr N d).1.host (Dr N d).1.port (Lc N ((AU 58 d.iD).drop 1)))).length>4096 then(Pf,5) else(HV (Dr N d).1.host (Dr N d).1.port (Lc N ((AU 58 d.iD).drop 1)),0)
def SN (d:ApiDID):Le (Dr N d).1.port/\(Dr N d).1.host.length<=253:=by grind[Dr,Le,hp0,AMj,ABV]
def ABv (xs:List B8):(Lc N xs).length<=3 * wS xs+21:=by
 have:=ABR (N:=N) xs;unfold Lc;split;·simp[Pw]
 ·simp[AVC]at *;omega
def AX3{l:List B8} (h:l≠ []) (hb:l.length<=1000000):sub l 1 (l.length:Int)=some (l.drop 1):=by have:0<l.length:=bD.2 h;rw[show(1:Int)=((1:Nat):Int)from rfl,BA l 1 l.length fG (aw _),aP fH]
def Alo (d:ApiDID) (hm:d.method.length<=4096) (hi:d.iD.length<=16000) (hN:20000<=N):OL N d=some (toS N d):=by
 have hsl:=Jw 58 d.iD;have hne:=Ew 58 d.iD;have hw:=Uk 58 d.iD;have hw1:=Yp (AU 58 d.iD);obtain⟨a1,a2⟩:=SN (N:=N) d;have hpl:=ABv (N:=N) ((AU 58 d.iD).drop 1);unfold OL toS;rw[AFV d hm hi hN,aa];by_cases h:((Dr N d).2 !=0)=true;·rw[ah h,ah h];rfl
 rw[ae h,ae h,ZL _ 58 fG];dsimp only[AA];rw[aa,AX3 hne fG,aa];generalize (AU 58 d.iD).drop 1=xs at *;have fin: ∀P:B8,P.length<=1000000->((FL N (ApiURL.mk (Dr N d).1.host (Dr N d).1.port P [] [] false false)).bind λy12=>if(decide ((y12.length:Int)>4096))=true then (some ((ApiURL.mk [] 0 [] [] [] false false),5):Option (ApiURL×Int)) else some ((ApiURL.mk (Dr N d).1.host (Dr N d).1.port P [] [] false false),0))=some (if(Pt (HV (Dr N d).1.host (Dr N d).1.port P)).length>4096 then(Pf,5)else(HV (Dr N d).1.host (Dr N d).1.port P,0)):=by
  intro P hP;rw[Xj _ ⟨a1,by dsimp only;omega,by dsimp only;omega,fH,fH⟩ fG,aa];unfold HV;split;·rename_i AR;rw[ah (by simp only[au]at AR;omega)];rfl
  ·rename_i AR;rw[ae (by simp only[au]at AR;omega)]
 have hul:=ABR (N:=N) xs;cases xs with
 | nil=>rw[ae fI];exact fin Pw fI
 | cons x xs=>
  rw[ah fH,AWH _ _ fG hN,aa,BV (by simp only[an,ag,ap];omega),BV (by simp only[an,ag,ap];omega)];by_cases hb:(x::xs).any (upB N)=true;·rw[ah hb,ah hb];rfl
  ·rw[ae hb,ae hb];dsimp only;rw[ae fI];have e:((x::xs).flatMap (upT N)++[47])++[100,105,100,46,106,115,111,110]=Lc N (x::xs):=by unfold Lc AVC;rw[ae fH,aF];rfl
   rw[<-e]at hpl;rw[fin _ fG,e]
theorem AOU (hN:20000<=N) (k:B8->Option (ApiURL×Int)): ∀(xs:List B8) (acc:B8),acc.length+3 * wS xs<=300000->Gg N k xs acc=if xs.any (upB N)=true then some (Pf,110)else k (acc++xs.flatMap (upT N)) |[],acc,_=>by rw[Gg];simp| x::xs,acc,h=>by have hu:=AJP (N:=N) x;have hd:=KF (N:=N) x;have he:=RG [] (Af N x).1;rw[RU]at h;rw[Gg,Ot _ hN,aa];dsimp only[AA];rw[Ur _ _ fH fG];have ih:=AOU hN k xs (acc++([47]++(Af N x).1.flatMap (MK []))) (by simp only[an,ag,ap];omega);have hg: ∀v:Option (ApiURL×Int),grd (AL (([47]:B8).length+((Af N x).1.flatMap (MK [])).length)) v=v:=λv=>BV (by simp only[ag,ap];omega);have hg2: ∀v:Option (ApiURL×Int),grd (AL (acc.length+(([47]:B8)++(Af N x).1.flatMap (MK [])).length)) v=v:=λv=>BV (by simp only[an,ag,ap];omega);have hup:upT N x=[47]++(Af N x).1.flatMap (MK []):=rfl;rw[bK,aQ,hup,<-aF];rw[aa,hg,hg2,ih];unfold upB;cases ((Af N x).1==[])<;>cases ((Af N x).1==[46])<;>cases ((Af N x).1==[46,46])<;>rfl
def An3 (d:ApiDID) (hm:d.method.length<=4096) (hi:d.iD.length<=16000) (hN:20000<=N):PP N d=some (toS N d):=by
 have hsl:=Jw 58 d.iD;have hne:=Ew 58 d.iD;have hw:=Uk 58 d.iD;have hw1:=Yp (AU 58 d.iD);obtain⟨a1,a2⟩:=SN (N:=N) d;have hpl:=ABv (N:=N) ((AU 58 d.iD).drop 1);unfold PP toS;rw[AGU d hm hi hN,aa];by_cases h1:(d.method==La)=false
 ·have e:Dr N d=(hp0,100):=by unfold Dr;rw[ah h1]
  rw[ah h1,e];rfl
 by_cases h2:((NR (MI d)).2 !=0)=true
 ·have e:Dr N d=(hp0,(NR (MI d)).2):=by unfold Dr;rw[ae h1,ah h2]
  rw[ae h1,ah h2,e];dsimp only;rw[ah h2,ah h2];rfl
 rw[ae h1,ae h2];dsimp only;by_cases h:((Dr N d).2 !=0)=true;·rw[ah h,ah h];rfl
 rw[ae h,ae h];dsimp only[AA];rw[AX3 hne fG,aa];have hone:((((AU 58 d.iD).length:Nat):Int)==1)=decide ((AU 58 d.iD).drop 1=[]):=by
  have:0<(AU 58 d.iD).length:=bD.2 hne;by_cases hq:(AU 58 d.iD).drop 1=[];·have:=eg.1 hq;rw[aA hq];simp;omega
  ·rw[aO hq];have: ¬(AU 58 d.iD).length<=1:=λhh=>hq (eg.2 hh);simp;omega
 rw[hone];generalize (AU 58 d.iD).drop 1=xs at *;have hxl:xs.length<=wS xs:=by unfold wS;omega
 have hul:=ABR (N:=N) xs;rw[BV fG,AOU hN _ _ _ fJ];by_cases hb:xs.any (upB N)=true;·rw[ah hb,ah hb]
 rw[ae hb,ae hb,aT];have fin: ∀Q:B8,Q++AVC=Lc N xs->(grd (AL (Q.length+([47,100,105,100,46,106,115,111,110]:B8).length)) ((Fh N (ApiURL.mk (Dr N d).1.host (Dr N d).1.port (Q++([47,100,105,100,46,106,115,111,110]:B8)) [] [] false false)).bind λy12=>if(decide ((y12.length:Int)>4096))=true then (some ((ApiURL.mk [] 0 [] [] [] false false),5):Option (ApiURL×Int)) else some ((ApiURL.mk (Dr N d).1.host (Dr N d).1.port (Q++([47,100,105,100,46,106,115,111,110]:B8)) [] [] false false),0)))=some (if(Pt (HV (Dr N d).1.host (Dr N d).1.port (Lc N xs))).length>4096 then(Pf,5)else(HV (Dr N d).1.host (Dr N d).1.port (Lc N xs),0)):=by
  intro Q hQ;change grd _ ((Fh N (ApiURL.mk (Dr N d).1.host (Dr N d).1.port (Q++AVC) [] [] false false)).bind λy12=>if(decide ((y12.length:Int)>4096))=true then (some ((ApiURL.mk [] 0 [] [] [] false false),5):Option (ApiURL×Int)) else some ((ApiURL.mk (Dr N d).1.host (Dr N d).1.port (Q++AVC) [] [] false false),0))=_;have hl:=bg List.length hQ;rw[an]at hl;rw[BV fJ,hQ,YD _ ⟨a1,by dsimp only;omega,by dsimp only;omega,fH,fH⟩ fG,aa];unfold HV;split;·rename_i AR;rw[ah (by simp only[au]at AR;omega)];rfl
  ·rename_i AR;rw[ae (by simp only[au]at AR;omega)]
 by_cases hq:xs=[];·subst hq;rw[ah fH];exact fin [47,46,119,101,108,108,45,107,110,111,119,110] (by unfold Lc;rw[ah rfl];rfl)
 ·rw[ae (by simpa using hq)];exact fin _ (by unfold Lc;rw[ae hq])
end
end Go.VM
namespace Go.VM
section
variable{N:Nat}
def TQ:B8:=[104,116,116,112,115]
def AP3:Mh TQ:=by unfold Mh;decide
def AEK (u:ApiURL):B8:=[47,47]++(hpF u.host u.port++(Uq u++if u.hasFrag=true then [35]++u.fragment else []))
def AK4 (u:ApiURL):Pt u=TQ++58::AEK u:=by unfold Pt AEK TQ;split<;>simp
def eqU (u v:ApiURL):Bool:=u.host==v.host&&(u.port==v.port&&(u.path==v.path&&(u.query==v.query&&(u.fragment==v.fragment&&(u.hasQuery==v.hasQuery&&u.hasFrag==v.hasFrag)))))
def ApO{u v:ApiURL} (h:eqU u v=true):u=v:=by unfold eqU at h;simp only[az,bE]at h;cases u;simp_all
def Sl (N:Nat) (u:ApiURL):Bool:=if((Vj N TQ (AEK u)).2==0)=true then eqU u (Vj N TQ (AEK u)).1 else false
def AD5 (u:ApiURL) (h:AEj u) (hb:(Pt u).length<=1000000) (hN:20000<=N):Oa N u=some (Sl N u):=by rw[AK4]at hb;unfold Oa Sl;rw[Xj u h fG,aa,AK4,AXT AP3 hb hN,aa];split<;>rfl
def AD8 (u:ApiURL) (h:AEj u) (hb:(Pt u).length<=1000000) (hN:20000<=N):PD N u=some (Sl N u):=by rw[AK4]at hb;unfold PD Sl;rw[YD u h fG,aa,AK4,AYJ AP3 hb hN,aa];split<;>rfl
def RP (c:UInt8):Bool:=c==37||FI c
def V4 (N:Nat) (x:B8):Bool:=!(x.all RP)||(Af N x).1==[]
def Nq (N:Nat) (x:B8):B8:=58::(Af N x).1.flatMap JI
def Zq (k:Int->Option (B8×DidwebMapper)): ∀(l:B8) (e:Int),Cs N k l e=k (if l.all RP=true then e else 110)
 |[],e=>by rw[Cs];rfl
 | c::l,e=>by
  rw[Cs];dsimp only[AA];rw[XV,aa,Zq k l,Zq k l,aK];have h37:(AC c !=37)=!(c==37):=by unfold bne;rw[Ro];rfl
  rw[h37];unfold RP;cases (c==37)<;>cases FI c<;>cases l.all (λc=>c==37||FI c)<;>rfl
def AYe (l:B8):(l.flatMap (MK [])).flatMap (ABB [37,55,69] 126)=l.flatMap JI:=by rw[List.flatMap_assoc];congr 1;funext b;exact Af1 b
def Akg (e:Int) (x:B8) (hb:x.length<=100000) (hN:20000<=N):JH N ⟨e⟩ x=some (Nq N x,⟨if V4 N x=true then 110 else e⟩):=by
 have hd:=KF (N:=N) x;have he:=RG [] (Af N x).1;have hf:=Si (f:=JI) (n:=3) (λb=>(OA b).1) (Af N x).1;have hg: ∀v:Option (B8×DidwebMapper),grd (AL (([58]:B8).length+((Af N x).1.flatMap JI).length)) v=v:=λv=>BV (by simp only[ag,ap];omega);unfold JH V4 Nq;dsimp only[AA];rw[BV fG,Zq,Qn _ hN,aa,XL _ _ fG];simp only[aa];rw[RI _ _ _ rfl fG,AYe];simp only[aa,hg];by_cases h:((Af N x).2 !=0)=true;·rw[ah h,ARd hN h];cases x.all RP<;>rfl
 ·rw[ae h];cases ((Af N x).1==[])<;>cases x.all RP<;>rfl
def Zj (x:B8):(Nq N x).length<=3 * x.length+1:=by have hd:=KF (N:=N) x;have hf:=Si (f:=JI) (n:=3) (λb=>(OA b).1) (Af N x).1;grind[Nq]
def Y5: ∀xs:List B8,(xs.flatMap (Nq N)).length<=3 * wS xs |[]=>by simp| x::xs=>by have:=Zj (N:=N) x;have:=Y5 xs;rw[aQ,an,RU];omega
def UJ (hN:20000<=N) (k:Bool×B8×DidwebMapper->Option (B8×DidwebMapper)): ∀(xs:List B8) (d:Bool) (b:B8) (e:Int),b.length+3 * wS xs<=300000->Ap N k xs d b ⟨e⟩=k (d||!xs.isEmpty,b++xs.flatMap (Nq N),⟨if xs.any (V4 N)=true then 110 else e⟩) | [],d,b,e,_=>by rw[Ap];simp| x::xs,d,b,e,h=>by have hu:=Zj (N:=N) x;rw[RU]at h;rw[Ap,Akg _ _ fG hN,aa];dsimp only;rw[Tv _ _ _ fG,aa];dsimp only;rw[UJ hN k xs _ _ _ (by rw[an];omega),aQ,bK,aF];cases V4 N x<;>cases xs.any (V4 N)<;>simp
def AJi (xs:List B8) (e:Int) (h:wS xs<=100000) (hN:20000<=N):Cc N xs ⟨e⟩=some (xs.flatMap (Nq N),⟨if xs.any (V4 N)=true then 110 else e⟩):=by
 unfold Cc;dsimp only[AA];have:xs.length<=wS xs:=by unfold wS;omega
 rw[BV fG,UJ hN _ _ _ _ _ fJ];rfl
def ACw:B8:=[100,105,100,46,106,115,111,110]
def idA (h:B8) (p:Int):B8:=if p=0 then h else h++([37,51,65]++fmtS p.toNat)
def AXn (h:B8) (p:Int):(idA h p).length<=h.length+23:=by grind[PM,idA,List.length_append,List.length_cons,List.length_nil]
def UY (N:Nat) (h:B8) (p:Int) (path:B8) (L:List B8):ApiDID×Int:=if(L.getLast?==some ACw)=false then(Oz,6) else if L.length=1 then(Oz,110) else if path=Pw then(if(MI ⟨La,idA h p⟩).length>4096 then(Oz,5)else(⟨La,idA h p⟩,0)) else if L.dropLast.any (V4 N)=true then(Oz,110) else if(MI ⟨La,idA h p++L.dropLast.flatMap (Nq N)⟩).length>4096 then(Oz,5) else(⟨La,idA h p++L.dropLast.flatMap (Nq N)⟩,0)
def Ym (N:Nat) (u:ApiURL):ApiDID×Int:=if Sl N u=true then UY N u.host u.port u.path ((AU 47 u.path).drop 1)else(Oz,8)
def AuU{β:Type} (h:B8) (p:Int) (hp:Le p) (hb:h.length<=1000000) (hN:20<=N) (k:B8->Option β):(if(p !=0)=true then (GL N (wr .u64 p)).bind λy15=>grd (AL (([37,51,65]:B8).length+y15.length)) (grd (AL (h.length+(([37,51,65]:B8)++y15).length)) (k (h++(([37,51,65]:B8)++y15))))else k h)=k (idA h p):=by
 have hl:=PM p.toNat;obtain⟨h1,h2⟩:=hp;unfold idA;by_cases h0:p=0;·grind
 ·rw[ah (by grind),ae h0];have e:wr .u64 p=((p.toNat:Nat):Int):=by rw[IC fG];omega
  simp only[e];rw[TC p.toNat fG hN,aa,BV (by simp only[an,ag,ap];omega),BV (by simp only[an,ag,ap];omega)]
def Atl{β:Type} (h:B8) (p:Int) (hp:Le p) (hb:h.length<=1000000) (hN:20<=N) (k:B8->Option β):(if(p !=0)=true then (Jz N p).bind λy15=>grd (AL (([37,51,65]:B8).length+y15.length)) (grd (AL (h.length+(([37,51,65]:B8)++y15).length)) (k (h++(([37,51,65]:B8)++y15))))else k h)=k (idA h p):=by
 have hl:=PM p.toNat;obtain⟨h1,h2⟩:=hp;unfold idA Jz;by_cases h0:p=0;·grind
 ·rw[ah (by grind),ae h0,ae (by grind)];have e:wr .u64 p=((p.toNat:Nat):Int):=by rw[IC fG];omega
  simp only[e];rw[TJ p.toNat fG hN,aa,aa,BV (by simp only[an,ag,ap];omega),BV (by simp only[an,ag,ap];omega)]
def AFd{l:List B8} (hne:l≠ []) (hb:l.length<=1000000): ∃y,l.getLast?=some y/\idx l (wr .i64 ((l.length:Int)-1))=some y:=⟨l.getLast hne,ck hne,AFK hne hb⟩
def APL{l:List B8} (hne:l≠ []) (hb:l.length<=1000000):sub l 0 (wr .i64 ((l.length:Int)-1))=some l.dropLast:=by have:0<l.length:=bD.2 hne;rw[show wr .i64 ((l.length:Int)-1)=((l.length-1:Nat):Int) by grind[AO],show(0:Int)=((0:Nat):Int)from rfl,BA l 0 (l.length-1) fG fG,ba,bV,List.dropLast_eq_take]
def Uz: ∀xs:List B8,wS xs.dropLast<=wS xs |[]=>aw _|[x]=>by simp[wS]| x::y::xs=>by have:=Uz (y::xs);grind[List.dropLast_cons_cons,RU]
theorem Ahx (h:B8) (p:Int) (path:B8) (hu:AEj (HV h p path)) (hh:h.length<=1000) (hp:path.length<=5000) (hL:(AU 47 path).drop 1≠ []) (hN:20000<=N):Lr N (HV h p path)=some (Ym N (HV h p path)):=by
 have hpt:=hu.1;have hF:(Pt (HV h p path)).length<=1000000:=by have:=YV h p;have ht:Uq (HV h p path)=path:=rfl;have he:Pt (HV h p path)=([104,116,116,112,115,58,47,47]++hpF h p)++path:=rfl;rw[he];simp only[an,ag,ap];omega
 have hw:=Uk 47 path;have hw1:=Yp (AU 47 path);have hsl:=Jw 47 path;have hne:=Ew 47 path;unfold Lr Ym;rw[AD5 _ hu hF hN,aa];by_cases hv:Sl N (HV h p path)=true;rotate_left;·rw[ae hv,ae hv];rfl
 rw[ah hv,ah hv];change Option.bind (strings_Split N path [47]) _=some (UY N h p path ((AU 47 path).drop 1));rw[ZL _ 47 fG,aa,AX3 hne fG];rw[aa];generalize (AU 47 path).drop 1=L at *;have hLl:L.length<=wS L:=by unfold wS;omega
 obtain⟨y,hy1,hy2⟩:=AFd hL fG;dsimp only[AA];change Option.bind (idx L (wr .i64 ((L.length:Int)-1))) (λx10=>if(!(x10==ACw))=true then some (Oz,(6:Int))else _)=_;rw[hy2,aa];unfold UY;rw[hy1];by_cases hd:y=ACw;rotate_left;·rw[ah (by simpa using hd),ah (by simpa using hd)]
 rw[ae (show¬(!(y==ACw))=true by simp[hd]),ae (show¬(some y==some ACw)=false by simp[hd])];by_cases h1:L.length=1;·rw[ah (show((L.length:Int)==1)=true by simp[h1]),ah h1];rfl
 rw[ae (show¬((L.length:Int)==1)=true by simp;omega),ae h1];have hid:=AXn h p;have hdl:=Y5 (N:=N) L.dropLast;have hwl:=Uz L;have fin: ∀I:B8,I.length<=100000->((GK N (ApiDID.mk ([119,101,98]:B8) I)).bind λy24=>if(decide ((y24.length:Int)>4096))=true then (some ((ApiDID.mk [] []),5):Option (ApiDID×Int)) else some ((ApiDID.mk ([119,101,98]:B8) I),0))=some (if(MI ⟨La,I⟩).length>4096 then(Oz,5)else(⟨La,I⟩,0)):=by
  intro I hI;rw[ACf _ ⟨fH,by dsimp only;omega⟩,aa];change (if decide (((MI ⟨La,I⟩).length:Int)>4096)=true then _ else _)=_;split;·rename_i AR;rw[ah (by simp only[au]at AR;omega)];rfl
  ·rename_i AR;rw[ae (by simp only[au]at AR;omega)];rfl
 refine(AuU (N:=N) h p hpt fG fG (λJ=>if(path==Pw)=true then ((GK N (ApiDID.mk ([119,101,98]:B8) J)).bind λy24=>if(decide ((y24.length:Int)>4096))=true then some ((ApiDID.mk [] []),5) else some ((ApiDID.mk ([119,101,98]:B8) J),0)) else (sub L 0 (wr .i64 ((L.length:Int)-1))).bind λx21=>(Cc N x21 (DidwebMapper.mk 0)).bind λy22=>grd (AL (J.length+y22.1.length)) (if(y22.2.e !=0)=true then some ((ApiDID.mk [] []),y22.2.e) else ((GK N (ApiDID.mk ([119,101,98]:B8) (J++y22.1))).bind λy24=>if(decide ((y24.length:Int)>4096))=true then some ((ApiDID.mk [] []),5) else some ((ApiDID.mk ([119,101,98]:B8) (J++y22.1)),0))))).trans ?_;change (if(path==Pw)=true then _ else _)=_;by_cases hr:path=Pw;·rw[ah (by simpa using hr),ah hr];exact fin (idA h p) fG
 rw[ae (by simpa using hr),ae hr,APL hL fG,aa,AJi _ _ fG hN,aa,BV (by dsimp only;omega)];by_cases hb:L.dropLast.any (V4 N)=true;·rw[ah hb,ah hb];rfl
 ·rw[ae hb,ae hb];dsimp only;rw[ae fI];exact fin _ (by rw[an];omega)
end
end Go.VM
namespace Go.VM
section
variable{N:Nat}
def Ai5 (k:Unit->Option (ApiDID×Int)): ∀l:B8,Ey N k l=if l.all RP=true then k ()else some (Oz,110)
 |[]=>by rw[Ey];rfl
 | c::l=>by
  rw[Ey];dsimp only[AA];rw[X3,aa,Ai5 k l,aK];have h37:(AC c !=37)=!(c==37):=by unfold bne;rw[Ro];rfl
  rw[h37];unfold RP;cases (c==37)<;>cases FI c<;>cases l.all (λc=>c==37||FI c)<;>rfl
theorem Wt (hN:20000<=N) (h:B8) (p:Int) (path:B8) (k:B8->Option (ApiDID×Int)): ∀(xs:List B8) (acc:B8),acc.length+3 * wS xs<=300000->ES N (HV h p path) k xs acc=if xs.any (V4 N)=true then some (Oz,110)else k (if path=Pw then acc else acc++xs.flatMap (Nq N))
 |[],acc,_=>by rw[ES];simp
 | x::xs,acc,hb=>by
  have hu:=Zj (N:=N) x;have hd:=KF (N:=N) x;have hf:=Si (f:=JI) (n:=3) (λb=>(OA b).1) (Af N x).1;rw[RU]at hb;rw[ES,bK,aQ];dsimp only[AA];rw[BV fG,Ai5,Ot _ hN,aa];unfold V4;by_cases h1:x.all RP=true;rotate_left;·rw[ae h1,cT.2 h1];rfl
  rw[ah h1,h1];by_cases h2:((Af N x).1==[])=true;·rw[ah h2,h2];rfl
  rw[ae h2,cT.2 h2,aU,be,be];change (if(path==Pw)=true then _ else _)=_;by_cases hr:path=Pw;·rw[ah (show(path==Pw)=true by simpa using hr),Wt hN h p path k xs acc fG];simp only[hr,av];rfl
  ·rw[ae (show¬(path==Pw)=true by simpa using hr),AQc _ fG,aa,BV (by simp only[ag,ap];omega),BV (by simp only[an,ag,ap];omega)];have e:acc++([58]++(Af N x).1.flatMap JI)=acc++Nq N x:=rfl;rw[e,Wt hN h p path k xs _ (by rw[an];omega)];simp only[hr,aq,aF];rfl
def AZB (hN:20000<=N):((AU 47 Pw).drop 1).dropLast.any (V4 N)=false:=by have e:((AU 47 Pw).drop 1).dropLast=[[46,119,101,108,108,45,107,110,111,119,110]]:=fI;rw[e];simp only[bK,List.any_nil,cx];unfold V4;rw[V6 fI hN];rfl
theorem AiT (h:B8) (p:Int) (path:B8) (hu:AEj (HV h p path)) (hh:h.length<=1000) (hp:path.length<=5000) (hL:(AU 47 path).drop 1≠ []) (hN:20000<=N):M8 N (HV h p path)=some (Ym N (HV h p path)):=by
 have hpt:=hu.1;have hF:(Pt (HV h p path)).length<=1000000:=by have:=YV h p;have ht:Uq (HV h p path)=path:=rfl;have he:Pt (HV h p path)=([104,116,116,112,115,58,47,47]++hpF h p)++path:=rfl;rw[he];simp only[an,ag,ap];omega
 have hw:=Uk 47 path;have hw1:=Yp (AU 47 path);have hsl:=Jw 47 path;have hne:=Ew 47 path;unfold M8 Ym;rw[AD8 _ hu hF hN,aa];by_cases hv:Sl N (HV h p path)=true;rotate_left;·rw[ae hv,ae hv];rfl
 rw[ah hv,ah hv];change Option.bind (IL N path (AC 47)) _=some (UY N h p path ((AU 47 path).drop 1));rw[QL _ 47 fG,aa,AX3 hne fG];rw[aa];have hroot:path=Pw->((AU 47 path).drop 1).dropLast.any (V4 N)=false:=λe=>by rw[e];exact AZB hN
 generalize (AU 47 path).drop 1=L at *;have hLl:L.length<=wS L:=by unfold wS;omega
 obtain⟨y,hy1,hy2⟩:=AFd hL fG;dsimp only[AA];change Option.bind (idx L (wr .i64 ((L.length:Int)-1))) (λx10=>if(!(x10==ACw))=true then some (Oz,(6:Int))else _)=_;rw[hy2,aa];unfold UY;rw[hy1];by_cases hd:y=ACw;rotate_left;·rw[ah (by simpa using hd),ah (by simpa using hd)]
 rw[ae (show¬(!(y==ACw))=true by simp[hd]),ae (show¬(some y==some ACw)=false by simp[hd]),APL hL fG,aa];have hpos:0<L.length:=bD.2 hL;by_cases h1:L.length=1;·rw[ah (show(((L.dropLast.length:Nat):Int)==0)=true by simp[h1]),ah h1];rfl
 rw[ae (show¬(((L.dropLast.length:Nat):Int)==0)=true by simp;omega),ae h1];have hid:=AXn h p;have hdl:=Y5 (N:=N) L.dropLast;have hwl:=Uz L;have hdll:L.dropLast.length<=wS L.dropLast:=by unfold wS;omega
 have fin: ∀I:B8,I.length<=100000->((FX N (ApiDID.mk ([119,101,98]:B8) I)).bind λy24=>if(decide ((y24.length:Int)>4096))=true then (some ((ApiDID.mk [] []),5):Option (ApiDID×Int)) else some ((ApiDID.mk ([119,101,98]:B8) I),0))=some (if(MI ⟨La,I⟩).length>4096 then(Oz,5)else(⟨La,I⟩,0)):=by
  intro I hI;rw[ACJ _ ⟨fH,by dsimp only;omega⟩,aa];change (if decide (((MI ⟨La,I⟩).length:Int)>4096)=true then _ else _)=_;split;·rename_i AR;rw[ah (by simp only[au]at AR;omega)];rfl
  ·rename_i AR;rw[ae (by simp only[au]at AR;omega)];rfl
 refine(Atl (N:=N) h p hpt fG fG (λJ=>grd (AL L.dropLast.length) (ES N (HV h p path) (λj18=>(FX N (ApiDID.mk ([119,101,98]:B8) j18)).bind λy42=>if(decide ((y42.length:Int)>4096))=true then some ((ApiDID.mk [] []),5) else some ((ApiDID.mk ([119,101,98]:B8) j18),0)) L.dropLast J))).trans ?_;rw[BV fG,Wt hN h p path _ _ _ fG];by_cases hr:path=Pw;·rw[hroot hr,ae fI,ah hr,ah hr];exact fin (idA h p) fG
 rw[ae hr,ae hr];by_cases hb:L.dropLast.any (V4 N)=true;·rw[ah hb,ah hb]
 ·rw[ae hb,ae hb];exact fin _ (by rw[an];omega)
def ZB (c:UInt8): ∀a b:B8,AU c (a++c::b)=AU c a++AU c b
 |[],b=>by simp[AU]
 | x::a,b=>by
  rw[bf,AU,AU,ZB c a b];split;·rfl
  ·cases h:AU c a with |nil=>exact absurd h (Ew c a)|cons p ps=>rfl
theorem X9 (xs:List B8):(AU 47 (Lc N xs)).drop 1≠ []:=by
 unfold Lc;split;·decide
 ·have:AVC=47::ACw:=rfl;rw[this,ZB];intro h;have h1:=bg List.length h;have h2:0<(AU 47 (xs.flatMap (upT N))).length:=bD.2 (Ew _ _);have h3:(AU 47 ACw).length=1:=fI;simp only[aB,an,ap]at h1;omega
def Vo (N:Nat) (d:ApiDID):ApiDID×Int:=if((toS N d).2 !=0)=true then(Oz,(toS N d).2)else Ym N (toS N d).1
def ALr{d:ApiDID} (h: ¬((toS N d).2 !=0)=true):(toS N d).1=HV (Dr N d).1.host (Dr N d).1.port (Lc N ((AU 58 d.iD).drop 1))/\(Pt (toS N d).1).length<=4096/\((Dr N d).2 !=0)=false/\((AU 58 d.iD).drop 1).any (upB N)=false:=by
 unfold toS at h⊢;split at h;·rename_i h1;exact absurd h1 h
 rename_i h1;rw[ae h1];split at h;·exact absurd rfl h
 rename_i h2;rw[ae h2];split at h;·exact absurd rfl h
 rename_i h3;rw[ae h3];exact⟨rfl,by dsimp only;omega,by simpa using h1,by simpa using h2⟩
def ABL{d:ApiDID} (h: ¬((toS N d).2 !=0)=true):(Lc N ((AU 58 d.iD).drop 1)).length<=4096:=by obtain⟨h1,h2,_⟩:=ALr h;rw[h1]at h2;have he: ∀(a:B8) (b:Int) (c:B8),Pt (HV a b c)=([104,116,116,112,115,58,47,47]++hpF a b)++c:=λ_ _ _=>rfl;rw[he]at h2;simp only[an,ag,ap]at h2;omega
def APW{d:ApiDID} (h: ¬((toS N d).2 !=0)=true):AEj (HV (Dr N d).1.host (Dr N d).1.port (Lc N ((AU 58 d.iD).drop 1))):=by have:=ABL h;obtain⟨a1,a2⟩:=SN (N:=N) d;exact⟨a1,by simp only[HV];omega,by simp only[HV];omega,by simp[HV],by simp[HV]⟩
def AfO (d:ApiDID) (hm:d.method.length<=4096) (hi:d.iD.length<=16000) (hN:20000<=N):KR N d=some (Vo N d):=by
 obtain⟨a1,a2⟩:=SN (N:=N) d;unfold KR Vo;rw[Alo d hm hi hN,aa];by_cases h:((toS N d).2 !=0)=true;·rw[ah h,ah h];rfl
 have hb:=ABL h;have hu:=APW h;rw[ae h,ae h,(ALr h).1,Ahx _ _ _ hu fG fG (X9 _) hN];rfl
def AiY (d:ApiDID) (hm:d.method.length<=4096) (hi:d.iD.length<=16000) (hN:20000<=N):K4 N d=some (Vo N d):=by
 obtain⟨a1,a2⟩:=SN (N:=N) d;unfold K4 Vo;rw[An3 d hm hi hN,aa];by_cases h:((toS N d).2 !=0)=true;·rw[ah h,ah h];rfl
 have hb:=ABL h;have hu:=APW h;rw[ae h,ae h,(ALr h).1,AiT _ _ _ hu fG fG (X9 _) hN];rfl
end
end Go.VM
