import Derived.Test.YtfcejbjjeaaleaaGreatDoorL11
set_option linter.defProp false
set_option linter.unusedVariables false
set_option linter.unusedSimpArgs false
namespace Go.VM
section
variable{N:Nat}{l:B8}
def R5{t:ApiToken}{c:B8} (h:(t.kind==2&&t.text==c)=true):t=ApiToken.mk 2 c t.at_:=by simp only[az,bE]at h;cases t;simp only at h;rw[h.1,h.2]
def MR.after{X:Option (ApiValue×Int×Int)}{S:Int->JPsr}{S':Int->JPsr} (e: ∀n,S n=S' n){p:Ref14Parser} (h:MR N l X S p):MR N l X S' p:=by have:S=S':=funext e;rw[<-this];exact h
def AFl (hb:l.length<=1048576) (hN:l.length+100<=N) (st:List ApiValue) (out:ApiValue) (X:Option (ApiValue×Int×Int)) (rc:Ref14Parser->ApiToken->Int->Option (ApiValue×Ref14Parser)) (hrc: ∀(p:Ref14Parser) (t:ApiToken) (v:ApiValue) (w:Int),TR N l X (inA st out v w) t p->(w=0\/w=1)->(p.fail=0->∀n,Dj (inA st out v w n) t=HY t)->Ok (rc p t ((st.length+1:Nat):Int)) (VQ N l X (st++[v]) out p)) (p0:Ref14Parser): ∀(k:Nat) (t:ApiToken) (items:List ApiValue) (p:Ref14Parser) (w:Int),TR N l X (inA st out (AJw items) w) t p->(w=0\/w=1)->(p.fail=0->∀n,Dj (inA st out (AJw items) w n) t=HY t)->p0.at_<=p.at_->(p.fail=0->p0.fail=0)->Ty l p<=k->items.length+Ty l p<=4000000->Ok (CW N ((st.length+1:Nat):Int) rc (λj5=>some (ApiValue.mk 6 [] [] j5.2.1,j5.2.2)) k t items p) (VQ N l X st out p0)
 |0,t,items,p,w,_,_,_,_,_,h,_=>by have:=VV (l:=l) p;omega
 | k+1,t,items,p,w,hp,hw,hfit,hle,hp0,hk,hB=>by
  rw[CW];have hpos:=VV (l:=l) p;refine Ok.ite (λhf=>?_) (λhf=>Ok.ret ⟨hp.dead (by simpa using hf),hle,hp0⟩);have hf0:p.fail=0:=by simpa using hf
  refine Ok.join (Ok.bind (hrc p t (AJw items) w hp hw hfit) λy14 h14=>Ok.grd (ADo fG fG) ?_);obtain⟨h14,a1,a1f⟩:=h14;refine Ok.bind (WN fG fG (h14.after (S':=inA st out (AJw (items++[y14.1])) 5) λn=>Ahr _ _ _ _ n)) λy16 h16=>?_;rw[isQ,aa];have a2:y14.2.at_<=y16.2.at_:=h16.le;have o2:y16.2.fail=0->y14.2.fail=0/\(y16.1.kind≠1->y14.2.at_<y16.2.at_):=h16.on;refine Ok.ite (λhc=>Ok.ret ⟨h16.tr.go λ_=>?_,by simp only[];omega,λhz=>hp0 hf0⟩) (λhc=>?_);·have e:=R5 hc;rw[e];exact⟨fH,λn=>TP (v:=AJw (items++[y14.1])) (.inr (.inr rfl))⟩
  refine Ok.meet (λj:Ref14Parser=>MR N l X (inA st out (AJw (items++[y14.1])) 0) j/\p.at_<=j.at_/\(j.fail=0->p.at_<j.at_)) (λj hj=>?_) (λk21 h21=>?_);·refine Ok.bind (WN fG fG hj.1) λy32 h32=>?_;have a3:=h32.le;have hl:=ABt ⟨hp.lo,hp.hi⟩ hf0 ⟨h32.tr.lo,h32.tr.hi⟩ (λe=>by have:=hj.2.2 (h32.on e).1;omega);exact AFl hb hN st out X rc hrc p0 k y32.1 _ y32.2 0 h32.tr (.inl rfl) (λ_ n=>AiV rfl) (by have:=hj.2.1;omega) (λ_=>hp0 hf0) fG fJ
  ·refine Ok.meet (λb:Bool=>(b=true->y16.2.fail=0/\(y16.1.kind==2&&y16.1.text==[44])=false)/\(b=false->y16.2.fail=0->(y16.1.kind==2&&y16.1.text==[44])=true)) (λb hb'=>?_) (λk25 h25=>?_)
   ·refine Ok.ite (λhbt=>?_) (λhbf=>?_)
    ·obtain⟨g1,g2⟩:=hb'.1 hbt;rw[Lb,aa];refine h21 _ ⟨h16.tr.stop g1 fI λn _ _=>⟨_,Qo (Ao3 g2 hc)⟩,?_,?_⟩;·rw[Ga g1];simp only[];omega
     ·rw[Ga g1];intro hz;cases hz
    ·refine h21 _ ⟨h16.tr.go λhz=>?_,fG,λhz=>?_⟩;·have e:=R5 (hb'.2 hbf hz);rw[e];exact⟨fH,λn=>ADc⟩
     ·have e:=R5 (hb'.2 hbf hz);have:=(o2 hz).2 (by rw[e];simp);omega
   ·refine Ok.ite (λhz=>?_) (λhz=>h25 _ ⟨λh=>(by cases h),λ_ h=>(by rw[h]at hz;simp at hz)⟩);rw[isQ,aa];refine h25 _ ⟨λh=>⟨(by simpa using hz),(by rw[cD]at h;exact h)⟩,λh _=>(by rw[eK]at h;exact h)⟩
def ACP: ∀(ks:List B8) (xs:List ApiValue) (key:B8),ks.length=xs.length->(SL ks xs key).2=decide (key∈ks)
 |[],[],key,_=>by simp[SL]
 | k::ks,x::xs,key,h=>by
  rw[SL];by_cases hk:k=key;·simp[hk]
  ·rw[ae (by simpa using hk),ACP ks xs key (by simpa using h)];simp[eH hk]
def AFu (hb:l.length<=1048576) (hN:l.length+100<=N) (st:List ApiValue) (out:ApiValue) (X:Option (ApiValue×Int×Int)) (rc:Ref14Parser->ApiToken->Int->Option (ApiValue×Ref14Parser)) (hrc: ∀(p:Ref14Parser) (t:ApiToken) (v:ApiValue) (w:Int),TR N l X (inA st out v w) t p->(w=0\/w=1)->(p.fail=0->∀n,Dj (inA st out v w n) t=HY t)->Ok (rc p t ((st.length+1:Nat):Int)) (VQ N l X (st++[v]) out p)) (p0:Ref14Parser): ∀(k:Nat) (t:ApiToken) (keys:List B8) (items:List ApiValue) (p:Ref14Parser) (w:Int),TR N l X (inA st out (P7 keys items) w) t p->(w=2\/w=3)->(w=3->p.fail=0->(t.kind==2&&t.text==[125])=false)->p0.at_<=p.at_->(p.fail=0->p0.fail=0)->Ty l p<=k->items.length+Ty l p<=4000000->keys.length=items.length->Ok (Bw N ((st.length+1:Nat):Int) rc (λj5=>some (ApiValue.mk 7 [] j5.2.1 j5.2.2.1,j5.2.2.2)) k t keys items p) (VQ N l X st out p0)
 |0,t,keys,items,p,w,_,_,_,_,_,h,_,_=>by have:=VV (l:=l) p;omega
 | k + 1,t,keys,items,p,w,hp,hw,hend,hle,hp0,hk,hB,hkl=>by
  rw[Bw];have hpos:=VV (l:=l) p;refine Ok.ite (λhf=>?_) (λhf=>Ok.ret ⟨hp.dead (by simpa using hf),hle,hp0⟩);have hf0:p.fail=0:=by simpa using hf
  have hfk: ∀n,Dj (inA st out (P7 keys items) w n) t=(t.kind==3):=λn=>Aol hw λh=>hend h hf0;refine Ok.meet (λj:Ref14Parser=>(t.kind=3/\j=p)\/(j.fail≠0/\MR N l X (inA st out (P7 keys items) w) j/\p.at_<=j.at_)) (λj10 h10=>?_) (λk11 h11=>?_)
  ·refine Ok.meet (λj:Ref14Parser=>MR N l X (inA st out (P7 (keys++[t.text]) items) 4) j/\p.at_<=j.at_) (λj16 h16=>?_) (λk17 h17=>?_)
   ·refine Ok.meet (λj:ApiToken×Ref14Parser=>MR N l X (inA st out (P7 (keys++[t.text]) items) 0) j.2/\p.at_<=j.2.at_/\(j.2.fail=0->p.at_<j.2.at_)) (λj24 h24=>?_) (λk25 h25=>?_)
    ·refine Ok.bind (WN fG fG h24.1) λy38 h38=>?_;refine Ok.bind (hrc y38.2 y38.1 (P7 (keys++[t.text]) items) 0 h38.tr (.inl rfl) λ_ n=>AiV rfl) λy40 h40=>Ok.grd (ADo fG fG) (Ok.grd (ADo fG fG) ?_);obtain⟨h40,a1,a1f⟩:=h40;refine Ok.bind (WN fG fG (h40.after (S':=inA st out (P7 (keys++[t.text]) (items++[y40.1])) 5) λn=>Ahr _ _ _ _ n)) λy42 h42=>?_;rw[isQ,aa];have a0:=h24.2.1;have a2:=h38.le;have a3:=h42.le;refine Ok.ite (λhc=>Ok.ret ⟨h42.tr.go λ_=>?_,by simp only[];omega,λhz=>hp0 hf0⟩) (λhc=>?_);·have e:=R5 hc;rw[e];exact⟨fH,λn=>TP (v:=P7 (keys++[t.text]) (items++[y40.1])) (.inr (.inr rfl))⟩
     refine Ok.meet (λj:Ref14Parser=>MR N l X (inA st out (P7 (keys++[t.text]) (items++[y40.1])) 2) j/\p.at_<=j.at_/\(j.fail=0->p.at_<j.at_)) (λj hj=>?_) (λk47 h47=>?_);·refine Ok.bind (WN fG fG hj.1) λy58 h58=>?_;have a4:=h58.le;have hl:=ABt ⟨hp.lo,hp.hi⟩ hf0 ⟨h58.tr.lo,h58.tr.hi⟩ (λe=>by have:=hj.2.2 (h58.on e).1;omega);exact AFu hb hN st out X rc hrc p0 k y58.1 _ _ y58.2 2 h58.tr (.inl rfl) (λh=>by cases h) (by have:=hj.2.1;omega) (λ_=>hp0 hf0) fG fJ (by simp[hkl])
     ·refine Ok.meet (λb:Bool=>(b=true->y42.2.fail=0/\(y42.1.kind==2&&y42.1.text==[44])=false)/\(b=false->y42.2.fail=0->(y42.1.kind==2&&y42.1.text==[44])=true)) (λb hb'=>?_) (λk51 h51=>?_)
      ·refine Ok.ite (λhbt=>?_) (λhbf=>?_)
       ·obtain⟨g1,g2⟩:=hb'.1 hbt;rw[Lb,aa];refine h47 _ ⟨h42.tr.stop g1 fI λn _ _=>⟨_,Qo (Ao3 g2 hc)⟩,?_,?_⟩;·rw[Ga g1];simp only[];omega
        ·rw[Ga g1];intro hz;cases hz
       ·refine h47 _ ⟨h42.tr.go λhz=>?_,fG,λhz=>?_⟩;·have e:=R5 (hb'.2 hbf hz);rw[e];exact⟨fH,λn=>ADc⟩
        ·have e:=R5 (hb'.2 hbf hz);have:=(h42.on hz).2 (by rw[e];simp);omega
      ·refine Ok.ite (λhz=>?_) (λhz=>h51 _ ⟨λh=>(by cases h),λ_ h=>(by rw[h]at hz;simp at hz)⟩);rw[isQ,aa];refine h51 _ ⟨λh=>⟨(by simpa using hz),(by rw[cD]at h;exact h)⟩,λh _=>(by rw[eK]at h;exact h)⟩
    ·refine Ok.bind (WN fG fG h16.1) λy28 h28=>?_;have a1:=h28.le;have a2:=h16.2;refine Ok.meet (λb:Bool=>(b=true->y28.2.fail=0/\(y28.1.kind==2&&y28.1.text==[58])=false)/\(b=false->y28.2.fail=0->(y28.1.kind==2&&y28.1.text==[58])=true)) (λb hb'=>?_) (λk31 h31=>?_)
     ·refine Ok.ite (λhbt=>?_) (λhbf=>?_)
      ·obtain⟨g1,g2⟩:=hb'.1 hbt;rw[Lb,aa];refine h25 _ ⟨h28.tr.stop g1 fI λn _ _=>⟨_,Qo (AsW g2)⟩,?_,?_⟩;·rw[Ga g1];simp only[];omega
       ·rw[Ga g1];intro hz;cases hz
      ·refine h25 _ ⟨h28.tr.go λhz=>?_,by simp only[];omega,λhz=>?_⟩;·have e:=R5 (hb'.2 hbf hz);rw[e];exact⟨fH,λn=>AVN⟩
       ·have e:=R5 (hb'.2 hbf hz);have:=(h28.on hz).2 (by rw[e];simp);simp only[];omega
     ·refine Ok.ite (λhz=>?_) (λhz=>h31 _ ⟨λh=>(by cases h),λ_ h=>(by rw[h]at hz;simp at hz)⟩);rw[isQ,aa];refine h31 _ ⟨λh=>⟨(by simpa using hz),(by rw[cD]at h;exact h)⟩,λh _=>(by rw[eK]at h;exact h)⟩
   ·rw [AH5 _ _ (by simp only[];omega),aa];have hth:(DV (ApiValue.mk 7 [] keys items) t.text).2=decide (t.text∈keys):=by unfold DV;rw[ah fH];exact ACP _ _ _ hkl
    rw[hth];rcases h10 with⟨hk3,rfl⟩|⟨hd,hm,hle2⟩
    ·have et:t=ApiToken.mk 3 t.text t.at_:=by cases t;simp only at hk3;rw[hk3]
     by_cases hin:t.text∈keys;·rw[ah (by simpa using hin),Lb,aa];refine h17 _ ⟨hp.stop hf0 fI λn _ _=>⟨inA st out (P7 keys items) w n,?_⟩,by rw[Ga hf0];exact bu _⟩;rw[et,ARL hw,ah hin]
     ·rw[ae (by simpa using hin)];refine h17 _ ⟨hp.go λ_=>⟨by rw[hk3];decide,λn=>?_⟩,bu _⟩;conv=>lhs;rw[et]
      rw[ARL hw,ae hin]
    ·refine Ok.ite (λ_=>?_) (λ_=>h17 _ ⟨hm.dead hd,hle2⟩);rw[Lb,aa,AhX hd];exact h17 _ ⟨hm.dead hd,hle2⟩
  ·refine Ok.ite (λhz=>?_) (λhz=>h11 _ (.inl ⟨by simpa using hz,rfl⟩));rw[Lb,aa];refine h11 _ (.inr ⟨by rw[Ga hf0];simp,hp.stop hf0 fI λn _ _=>⟨_,Qo (by rw[hfk];simpa using hz)⟩,by rw[Ga hf0];exact bu _⟩)
end
end Go.VM
namespace Go.VM
section
variable{N:Nat}{l:B8}
def Ane (N:Nat) (l:B8) (D:Nat):Prop:= ∀(p:Ref14Parser) (t:ApiToken) (st:List ApiValue) (out:ApiValue) (w:Int) (X:Option (ApiValue×Int×Int)),TR N l X (λn=>⟨st,w,n,out⟩) t p->(w=0\/w=1)->(p.fail=0-> ∀n,Dj ⟨st,w,n,out⟩ t=HY t)->st.length<=64->2 * (64-st.length)+2<=D->Ok (BK N D p t (st.length:Int)) (VQ N l X st out p)
def Aqj (N:Nat) (l:B8) (D:Nat):Prop:= ∀(p:Ref14Parser) (st:List ApiValue) (out:ApiValue) (X:Option (ApiValue×Int×Int)),MR N l X (inA st out (AJw []) 1) p->st.length<64->2 * (63-st.length)+3<=D->Ok (D8 N D p ((st.length+1:Nat):Int)) (VQ N l X st out p)
def Aq6 (N:Nat) (l:B8) (D:Nat):Prop:= ∀(p:Ref14Parser) (st:List ApiValue) (out:ApiValue) (X:Option (ApiValue×Int×Int)),MR N l X (inA st out (P7 [] []) 3) p->st.length<64->2 * (63-st.length)+3<=D->Ok (Db N D p ((st.length+1:Nat):Int)) (VQ N l X st out p)
def Aeg (hb:l.length<=1048576) (hN:l.length+100<=N){D:Nat} (hv:Ane N l D):Aqj N l (D+1):=by
 intro p st out X hp hst hD;rw[D8];refine Ok.bind (WN fG fG hp) λy1 h1=>?_;rw[isQ,aa];refine Ok.ite (λhc=>Ok.ret ⟨h1.tr.go λ_=>?_,h1.le,λhz=>(h1.on hz).1⟩) (λhc=>?_);·have e:=R5 hc;rw[e];exact⟨fH,λn=>TP (v:=AJw []) (.inl rfl)⟩
 ·have:=ASe (l:=l) y1.2;refine Ok.join (AFl hb hN st out X (BK N D) (λq t v w hq hw hfit=>?_) p N y1.1 [] y1.2 1 h1.tr (.inr rfl) (λ_ n=>fits1 hc) h1.le (λhz=>(h1.on hz).1) fG fJ);have:=hv q t (st++[v]) out w X hq hw hfit fJ fJ;simpa using this
def Aff (hb:l.length<=1048576) (hN:l.length+100<=N){D:Nat} (hv:Ane N l D):Aq6 N l (D+1):=by
 intro p st out X hp hst hD;rw[Db];refine Ok.bind (WN fG fG hp) λy1 h1=>?_;rw[isQ,aa];refine Ok.ite (λhc=>Ok.ret ⟨h1.tr.go λ_=>?_,h1.le,λhz=>(h1.on hz).1⟩) (λhc=>?_);·have e:=R5 hc;rw[e];exact⟨fH,λn=>TP (v:=P7 [] []) (.inr (.inl rfl))⟩
 ·have:=ASe (l:=l) y1.2;refine Ok.join (AFu hb hN st out X (BK N D) (λq t v w hq hw hfit=>?_) p N y1.1 [] [] y1.2 3 h1.tr (.inr rfl) (λ_ _=>hc) h1.le (λhz=>(h1.on hz).1) fG fJ rfl);have:=hv q t (st++[v]) out w X hq hw hfit fJ fJ;simpa using this
def AtF (s:B8) (h:isWord s=true):Ow N s=some (TN s):=by unfold isWord at h;simp only[bM,bE]at h;rcases h with rfl|rfl|rfl<;>rfl
theorem YN{s:B8}{a n w i e:Int}:Yi (Ref14Parser.mk s a n 0 w) i e=Ref14Parser.mk s a n e i:=rfl
theorem AgN{s:B8}{a n w i e:Int}:Yi (Ref14Parser.mk s a n 144 w) i e=Ref14Parser.mk s a n 144 w:=rfl
def Abh{t:ApiToken} (h:t.kind=3\/t.kind=4\/t.kind=5):HY t=true:=by unfold HY;rcases h with h|h|h<;>simp[h]
def MR.vq{X:Option (ApiValue×Int×Int)}{st:List ApiValue}{out v:ApiValue}{p q:Ref14Parser} (h:MR N l X (AA9 st out v) q) (hf:p.fail=0) (ha:q.at_=p.at_):VQ N l X st out p (v,q):=⟨h,by rw[ha];exact bu _,λ_=>hf⟩
def AhI (hb:l.length<=1048576) (hN:l.length+100<=N){D:Nat} (ha:Aqj N l D) (ho:Aq6 N l D):Ane N l (D+1):=by
 intro p t st out w X h hw hfit hst hD;rw[BK];by_cases hf:p.fail=0;rotate_left
 ·refine Ok.meet (λ_:Bool=>True) (λb _=>?_) (λk2 h2=>?_);·rw[ah (by simpa using hf)];exact Ok.ret ⟨h.dead hf,bu _,λh=>h⟩
  ·simp only[isQ,aa];refine Ok.ite (λ_=>h2 _ trivial) (λ_=>Ok.ite (λ_=>h2 _ trivial) (λ_=>Ok.ite (λ_=>h2 _ trivial) (λ_=>Ok.ite (λ_=>h2 _ trivial) (λ_=>h2 _ trivial))))
 ·obtain ⟨htk,E,i,g1,g2,g3,g4,g5⟩:=h.ok hf;have hfit:=hfit hf;have hw3:w=0\/w=1:=hw;have hwr:wr .i64 (p.nodes+1)=p.nodes+1:=AO fG;have hps:p=Ref14Parser.mk p.s p.at_ p.nodes 0 p.where_:=by cases p;simp only at hf;rw[hf]
  have plain: ∀v,(t.kind=3\/t.kind=4\/t.kind=5)->(t.kind=4->EE N t.text=some (ZC N t.text)/\(ZC N t.text).2=0)->v=ATR N t->MR N l X (AA9 st out v) (if p.nodes+1>20000 then Ref14Parser.mk p.s p.at_ (p.nodes+1) 142 t.at_ else Ref14Parser.mk p.s p.at_ (p.nodes+1) p.fail p.where_):=by intro v hk hn hv;refine h.count hf (by rcases hk with e|e|e<;>rw[e]<;>decide) λn _ _=>?_;have e:=ADB (N:=N) (n:=n) hw ((hfit n).trans (Abh hk)) hk λe=>(hn e).1;rw[ae (λe=>e.2 (hn e.1).2),Aek,<-hv]at e;refine⟨λhc=>⟨_,by rw[e,ah hc]⟩,λhc=>by rw[e,ae hc]⟩
  rw[hf]at plain;cases htk with
  | fin pos=>simp[AA,isQ,Lb,hf];refine Ok.ret (MR.vq (h.stop hf fI λn _ _=>⟨_,Qo ((hfit n).trans rfl)⟩) hf (by rw[Ga hf]))
  | pun c pos hc=>
   by_cases h91:c=91
   ·subst h91;by_cases h64:st.length=64;·simp[AA,isQ,Lb,hf,h64];refine Ok.ret (MR.vq (h.stop hf fI λn _ _=>⟨⟨st,w,n,out⟩,?_⟩) hf (by rw[Ga hf]));rw[Vd 91 (.inl rfl) ((hfit n).trans rfl),ah rfl];simp[G8,h64]
    ·have e64: ¬(st.length:Int)=64:=fG;have ew:wr .i64 ((st.length:Int)+1)=(st.length:Int)+1:=AO fG;have ec:((st.length+1:Nat):Int)=(st.length:Int)+1:=fG;have hm:MR N l X (inA st out (AJw []) 1) (if p.nodes+1>20000 then Ref14Parser.mk p.s p.at_ (p.nodes+1) 142 pos else Ref14Parser.mk p.s p.at_ (p.nodes+1) p.fail p.where_):=by refine h.count hf fH λn _ _=>?_;have e:=Vd (N:=N) (st:=st) (out:=out) (w:=w) (n:=n) (p:=pos) 91 (.inl rfl) ((hfit n).trans rfl);rw[ah rfl,AE7 fG]at e;exact⟨λhc=>⟨_,by rw[e,ah hc]⟩,λhc=>by rw[e,ae hc];rfl⟩
     rw[hf]at hm;have fin:=ha _ st out X hm fG fG;rw[ec]at fin;simp[AA,isQ,Lb,hf,e64,ew,hwr,YN];by_cases hc:p.nodes+1>20000;·rw[ah hc]at fin⊢;obtain⟨y,e,hy⟩:=fin;rw[e];exact Ok.ret ⟨hy.1,hy.2.1,λ_=>hf⟩
     ·rw[ae hc]at fin⊢;obtain⟨y,e,hy⟩:=fin;rw[e];exact Ok.ret ⟨hy.1,hy.2.1,λ_=>hf⟩
   ·by_cases h123:c=123
    ·subst h123;by_cases h64:st.length=64;·simp[AA,isQ,Lb,hf,h64];refine Ok.ret (MR.vq (h.stop hf fI λn _ _=>⟨⟨st,w,n,out⟩,?_⟩) hf (by rw[Ga hf]));rw[Vd 123 (.inr rfl) ((hfit n).trans rfl),ae fI];simp[G8,h64]
     ·have e64: ¬(st.length:Int)=64:=fG;have ew:wr .i64 ((st.length:Int)+1)=(st.length:Int)+1:=AO fG;have ec:((st.length+1:Nat):Int)=(st.length:Int)+1:=fG;have hm:MR N l X (inA st out (P7 [] []) 3) (if p.nodes+1>20000 then Ref14Parser.mk p.s p.at_ (p.nodes+1) 142 pos else Ref14Parser.mk p.s p.at_ (p.nodes+1) p.fail p.where_):=by refine h.count hf fH λn _ _=>?_;have e:=Vd (N:=N) (st:=st) (out:=out) (w:=w) (n:=n) (p:=pos) 123 (.inr rfl) ((hfit n).trans rfl);rw[ae fI,AE7 fG]at e;exact⟨λhc=>⟨_,by rw[e,ah hc]⟩,λhc=>by rw[e,ae hc];rfl⟩
      rw[hf]at hm;have fin:=ho _ st out X hm fG fG;rw[ec]at fin;simp[AA,isQ,Lb,hf,e64,ew,hwr,YN];by_cases hc:p.nodes+1>20000;·rw[ah hc]at fin⊢;obtain⟨y,e,hy⟩:=fin;rw[e];exact Ok.ret ⟨hy.1,hy.2.1,λ_=>hf⟩
      ·rw[ae hc]at fin⊢;obtain⟨y,e,hy⟩:=fin;rw[e];exact Ok.ret ⟨hy.1,hy.2.1,λ_=>hf⟩
    ·have ho:HY (ApiToken.mk 2 [c] pos)=false:=by simp[HY,h91,h123]
     simp[AA,isQ,Lb,hf,h91,h123];refine Ok.ret (MR.vq (h.stop hf fI λn _ _=>⟨_,Qo ((hfit n).trans ho)⟩) hf (by rw[Ga hf]))
  | txt s pos hs=>
   have hm:=plain _ (.inl rfl) (λe=>by cases e) rfl;simp[AA,isQ,Lb,hf,hwr,YN];by_cases hc:p.nodes+1>20000;·rw[ah hc]at hm⊢;exact Ok.ret (MR.vq hm hf rfl)
   ·rw[ae hc]at hm⊢;exact Ok.ret (MR.vq hm hf rfl)
  | num s pos h0 hn hl=>
   obtain⟨n1,n2,n3⟩:=AiZ (N:=N) h0 hn fG fG;by_cases hz:(ZC N s).2=0
   ·have hm:=plain _ (.inr (.inl rfl)) (λ_=>⟨n1,hz⟩) rfl;simp[AA,isQ,Lb,hf,n2,hz,hwr,YN];by_cases hc:p.nodes+1>20000;·rw[ah hc]at hm⊢;exact Ok.ret (MR.vq hm hf rfl)
    ·rw[ae hc]at hm⊢;exact Ok.ret (MR.vq hm hf rfl)
   ·have h144:(ZC N s).2=144:=by rcases n3 with e|e;exact absurd e hz;rw[e]
    have hm: ∀(q:Int) (v:ApiValue),MR N l X (AA9 st out v) (Ref14Parser.mk p.s p.at_ q 144 pos):=λq v=>by refine⟨h.s,h.lo,h.hi,λ_=>?_,λhz=>by cases hz⟩;have:=(h.stop (S':=AA9 st out v) hf (e:=144) fI λn _ _=>⟨⟨st,w,n,out⟩,by rw[ADB (N:=N) hw ((hfit n).trans rfl) (.inr (.inl rfl)) λ_=>n1,ah ⟨rfl,hz⟩]⟩).bad (by rw[Ga hf];simp);rw[Ga hf]at this;exact this
    simp[AA,isQ,Lb,hf,n2,h144,Ga hf,hwr,AgN];exact Ok.ret (MR.vq (hm _ _) hf rfl)
  | wrd s pos hs=>
   have hm:=plain _ (.inr (.inr rfl)) (λe=>by cases e) rfl;simp[AA,isQ,Lb,hf,AtF s hs,hwr,YN];by_cases hc:p.nodes+1>20000;·rw[ah hc]at hm⊢;exact Ok.ret (MR.vq hm hf rfl)
   ·rw[ae hc]at hm⊢;exact Ok.ret (MR.vq hm hf rfl)
def AGG (hb:l.length<=1048576) (hN:l.length+100<=N): ∀D,Ane N l D/\Aqj N l D/\Aq6 N l D |0=>⟨λp t st out w X _ _ _ _ h=>by omega,λp st out X _ _ h=>by omega,λp st out X _ _ h=>by omega⟩| D+1=>by obtain⟨h1,h2,h3⟩:=AGG hb hN D;exact⟨AhI hb hN h2 h3,Aeg hb hN h1,Aff hb hN h1⟩
def AUG (hN:l.length+200<=N) (hN2:N<=1099511627776): ∃r,MF N l=some r/\J4 N l=some r:=by
 unfold MF J4;rw[ae (show¬N>1099511627776 by omega)];by_cases hb:l.length>1048576;·rw[ah fJ,ah hb];exact⟨_,rfl,rfl⟩
 ·rw [ae fJ,ae hb];have h0:MR N l (Ob N l N 0 ⟨[],0,0,GA⟩) (λn=>⟨[],0,n,GA⟩) (Ref14Parser.mk l 0 0 0 0):=⟨rfl,bu _,by simp only[];omega,λh=>absurd rfl h,λ_=>⟨N,0,rfl,fG,bu _,fH,rfl⟩⟩;have key:Ok ((BB N (Ref14Parser.mk l 0 0 0 0)).bind λy1=>(BK N N y1.2 y1.1 0).bind λy3=>AB (λj5:Ref14Parser=>if(j5.fail !=0)=true then some (ApiValue.mk 0 [] [] [],j5.where_,j5.fail)else some (y3.1,(l.length:Int),0)) λk6=>(BB N y3.2).bind λy9=>AB (λj11:Bool=>if j11=true then (BC N y9.2 y9.1.at_ 140).bind λy15=>k6 y15 else k6 y9.2) λk12=>if(y9.2.fail==0)=true then k12 (y9.1.kind !=1)else k12 false) (λr=>Ob N l N 0 ⟨[],0,0,GA⟩=some r):=by
   refine Ok.bind (WN fG fG h0) λy1 h1=>?_;refine Ok.bind ((AGG fG fG N).1 y1.2 y1.1 [] GA 0 _ h1.tr (.inl rfl) (λ_ n=>AiV rfl) fH fJ) λy3 h3=>?_;refine Ok.bind (WN fG fG h3.1) λy9 h9=>?_;simp only[AA];by_cases hf:y9.2.fail=0
   ·rw[ah (by simpa using hf)];obtain⟨_,E,i,g1,g2,g3,g4,g5⟩:=h9.tr.ok hf;have hfit:Dj (AA9 [] GA y3.1 y9.2.nodes) y9.1=(y9.1.kind==1):=by simp[AA9,IX,Dj]
    by_cases hk:y9.1.kind=1;·rw[ae (by simpa using hk),ae (by simpa using hf)];refine Ok.ret ?_;rw[g5,AAZ];unfold E9;rw[ae (by rw[hfit];simpa using hk),hk];simp[AA9,IX]
    ·rw[ah (by simpa using hk),Lb,aa,Ga hf,ah fH];refine Ok.ret ?_;rw[g5,AAZ,Qo (by rw[hfit];simpa using hk),aa,ah fH];rfl
   ·rw[ae (by simpa using hf),ae fH,ah (by simpa using hf)];refine Ok.ret ?_;rw[(h9.tr.bad hf).1];rfl
  obtain⟨r,e1,e2⟩:=key;exact⟨r,e1,e2⟩
end
end Go.VM
namespace Go.VM
def okD.mono{d:Nat}{v:ApiValue} (h:okD d v): ∀e,d<=e->okD e v:=by induction h with | mk v hk hi h ih=>intro e he;obtain⟨e',rfl⟩: ∃e',e=e'+1:=⟨e-1,fG⟩;exact .mk v hk hi λx hx=>ih x hx e' fG
def AcI (kind:Int) (text:B8){d:Nat} (h:1<=d):okD d (ApiValue.mk kind text [] []):=by obtain⟨d,rfl⟩: ∃e,d=e+1:=⟨d-1,fG⟩;exact .mk _ fH fH fH
structure lvD (k i:Nat) (v:ApiValue):Prop where
  keys:v.keys.length+k<=2199023255552
  items:v.items.length+k<=2199023255552
  sub: ∀x,x∈v.items->okD (64-i) x
structure LS (k:Nat) (p:JPsr):Prop where
  len:p.stack.length<=64
  out:okD 65 p.out
  lv: ∀i v,p.stack[i]?=some v->lvD k i v
  kk:k<=2199023255552
def lvD.less{k i:Nat}{v:ApiValue} (h:lvD (k+1) i v):lvD k i v:=⟨by have:=h.keys;omega,by have:=h.items;omega,h.sub⟩
def AHA{k:Nat}{st:List ApiValue}{v:ApiValue} (h: ∀i x,(st++[v])[i]?=some x->lvD k i x):(∀i x,st[i]?=some x->lvD k i x)/\lvD k st.length v:=by
 refine⟨λi x hx=>h i x ?_,h st.length v fH⟩;have hi:i<st.length:=by
  rcases aV i st.length with h|h;·exact h
  ·rw[fm h]at hx;cases hx
 rw[dH hi];exact hx
def AVf{k:Nat}{st:List ApiValue}{v:ApiValue} (h: ∀i x,st[i]?=some x->lvD k i x) (hv:lvD k st.length v): ∀i x,(st++[v])[i]?=some x->lvD k i x:=by
 intro i x hx;rcases Nat.lt_trichotomy i st.length with hi|hi|hi;·rw[dH hi]at hx;exact h i x hx
 ·subst hi;rw[dC (aw _)]at hx;simp at hx;subst hx;exact hv
 ·rw[fm fJ]at hx;cases hx
def last_cases (l:List ApiValue):l=[]\/∃st v,l=st++[v]:=by
 rcases cK l with h|⟨a,b,h⟩;·exact .inl h
 ·exact .inr ⟨a,b,by simpa using h⟩
def LS.less{k:Nat}{p:JPsr} (h:LS (k+1) p):LS k p:=⟨h.len,h.out,λi v hv=>(h.lv i v hv).less,by have:=h.kk;omega⟩
def LS.done{k:Nat}{p:JPsr}{v:ApiValue} (h:LS (k+1) p) (hv:okD (65-p.stack.length) v):LS k (IX p v):=by
 unfold IX;rcases last_cases p.stack with hs|⟨st,w,hs⟩;·rw[hs]at hv;simp only[hs,eU];exact⟨fH,hv,fH,by have:=h.kk;omega⟩
 ·have hl:=h.len;have hlv:=h.lv;rw[hs]at hv hl hlv;simp only[hs,bS,bO,cA,cv,cd];simp only[an,ag,ap]at hv hl;obtain⟨h1,h2⟩:=AHA hlv;refine⟨by simpa using hl,h.out,AVf (λi x hx=>(h1 i x hx).less) ⟨?_,?_,?_⟩,by have:=h.kk;omega⟩;·have:=h2.keys;simp only[];omega
  ·have:=h2.items;simp only[an,ag,ap];omega
  ·intro x hx;simp only[aY,bm]at hx;rcases hx with hx|rfl;·exact h2.sub x hx
   ·exact hv.mono _ fG
def LS.nodes{k:Nat}{p:JPsr} (h:LS k p) (n w:Int):LS k {p with nodes:=n,want:=w}:=⟨h.len,h.out,h.lv,h.kk⟩
def LS.put{k:Nat}{p:JPsr}{v:ApiValue} (h:LS (k+1) p) (hv:okD (65-p.stack.length) v) (h0:(NN p v).2=0):LS k (NN p v).1:=by
 unfold NN at h0⊢;split;·rename_i hc;rw[ah hc]at h0;cases h0
 ·exact(h.nodes _ p.want).done hv
def LS.opn{k:Nat}{p:JPsr}{kd w:Int} (h:LS (k+1) p) (h0:(G8 p kd w).2=0):LS k (G8 p kd w).1:=by
 unfold G8 at h0⊢;split;·rename_i hc;rw[ah hc]at h0;cases h0
 ·rename_i hc;rw[ae hc]at h0;split;·rename_i hc;rw[ah hc]at h0;cases h0
  ·exact⟨by simp only[an,ag,ap];omega,h.out,AVf (λi x hx=>(h.lv i x hx).less) ⟨by have:=h.kk;simp;omega,by have:=h.kk;simp;omega,fH⟩,by have:=h.kk;omega⟩
def LS.take{N:Nat}{k:Nat}{p:JPsr}{t:ApiToken}{q:JPsr×Int} (h:LS (k+1) p) (hq:E9 N p t=some q) (h0:q.2=0):LS k q.1:=by
 have hl:=h.len;have pl: ∀kind text,okD (65-p.stack.length) (ApiValue.mk kind text [] []):=λ_ _=>AcI _ _ fG;unfold E9 at hq;split at hq;·cases hq;cases h0
 ·split at hq
  ·unfold QQ at hq;split at hq;·cases hq;exact h.opn h0
   ·split at hq;·cases hq;exact h.opn h0
    ·split at hq;·cases hq;exact h.less.nodes _ _
     ·rcases last_cases p.stack with hs|⟨st,w,hs⟩;·simp[hs]at hq
      ·have hlv:=h.lv;rw[hs]at hlv hl;simp only[hs,bS,bO,cA,cv,cd]at hq;split at hq;·cases hq;exact⟨hl,h.out,λi v hv=>(hlv i v hv).less,h.less.kk⟩
       ·cases hq;obtain⟨h1,h2⟩:=AHA hlv;simp only[an,ag,ap]at hl;refine LS.done ⟨by simp only[];omega,h.out,h1,h.kk⟩ ?_;have e:65-st.length=(64-st.length)+1:=fG;simp only[];rw[e];exact .mk _ (by have:=h2.keys;omega) (by have:=h2.items;omega) h2.sub
  ·split at hq
   ·unfold XE at hq;rcases last_cases p.stack with hs|⟨st,w,hs⟩;·simp[hs]at hq
    ·have hlv:=h.lv;rw[hs]at hlv hl;simp only[hs,bS,bO,cA,cv,cd]at hq;split at hq;·cases hq;cases h0
     ·cases hq;obtain⟨h1,h2⟩:=AHA hlv;exact⟨by simpa using hl,h.out,AVf (λi x hx=>(h1 i x hx).less) ⟨by have:=h2.keys;simp only[an,ag,ap];omega,by have:=h2.items;simp only[];omega,h2.sub⟩,h.less.kk⟩
   ·split at hq;·cases hq;exact h.less
    ·unfold SS at hq;split at hq
     ·cases hy:EE N t.text with
      |none=>rw[hy]at hq;cases hq
      | some y=>
       rw[hy,aa]at hq;split at hq;·cases hq;cases h0
       ·cases hq;exact h.put (pl _ _) h0
     ·split at hq;·cases hq;exact h.put (pl _ _) h0
      ·cases hq;exact h.put (pl _ _) h0
end Go.VM
namespace Go.VM
section
variable{N:Nat}
def ctB:B8:=[99,111,110,116,101,110,116,45,116,121,112,101]
def AAM (a b:B8) (ha:a.length<=1000000) (hb:b.length<=1000000) (hN:20000<=N): ∃r,NG N a b=some r/\NF N a b=some r:=by
 unfold NG NF;rw[Z5 a ha hN,Z5 b hb hN,AI0 a ha hN,AI0 b hb hN];simp only[aa];cases (Ho N a).2==0;·exact⟨_,rfl,rfl⟩
 ·cases (Ho N b).2==0<;>exact⟨_,rfl,rfl⟩
end
end Go.VM
namespace Go.VM
def KZ (d:JrdDecoder) (x:Int):JrdDecoder:=if d.e==0 then⟨x⟩else d
def Qa (d:JrdDecoder) (v:ApiValue):B8×JrdDecoder:=if v.kind !=5 then([],KZ d 160)else(v.text,d)
def Il (d:JrdDecoder) (g:ApiValue×Bool):B8×JrdDecoder:=if g.2 then Qa d g.1 else([],d)
def Su (v:ApiValue):Nat:=if v.kind==7 then min v.keys.length v.items.length else v.items.length
def IU (d:JrdDecoder) (g:ApiValue×Bool) (kind:Int):ApiValue×JrdDecoder:=if !g.2||d.e !=0 then(zeroV,d)else if g.1.kind !=kind then(zeroV,KZ d 160)else if 64<Su g.1 then(zeroV,KZ d 161)else(g.1,d)
def X6 (null:Bool) (d:JrdDecoder) (x:ApiValue):B8×Bool×JrdDecoder:=if null&&x.kind==1 then([],true,d)else((Qa d x).1,false,(Qa d x).2)
def IJ (null:Bool):List B8->List ApiValue->JrdDecoder->List ApiProperty×JrdDecoder
  | k::ks,x::xs,d=>
    let p:=X6 null d x
    let r:=IJ null ks xs p.2.2
    (ApiProperty.mk k p.1 p.2.1::r.1,r.2)
  |_,_,d=>([],d)
def Rz (d:JrdDecoder) (g:ApiValue×Bool) (null:Bool):List ApiProperty×JrdDecoder:=
  let m:=IU d g 7
  IJ null m.1.keys m.1.items m.2
def AgT:B8:=[114,101,108]
def AXr:B8:=[116,121,112,101]
def AWw:B8:=[104,114,101,102]
def AIn:B8:=[116,101,109,112,108,97,116,101]
def ABN:B8:=[116,105,116,108,101,115]
def Qu:B8:=[112,114,111,112,101,114,116,105,101,115]
def ADC:B8:=[115,117,98,106,101,99,116]
def AWe:B8:=[97,108,105,97,115,101,115]
def XG:B8:=[108,105,110,107,115]
def Yj (d:JrdDecoder) (v:ApiValue):ApiLink×JrdDecoder:=
  let d0:=if(DV v AgT).2 then d else KZ d 160
  let a:=Il d0 (DV v AgT)
  let b:=Il a.2 (DV v AXr)
  let c:=Il b.2 (DV v AWw)
  let e:=Il c.2 (DV v AIn)
  let f:=Rz e.2 (DV v ABN) false
  let g:=Rz f.2 (DV v Qu) true
  (ApiLink.mk a.1 b.1 c.1 e.1 f.1 g.1,g.2)
def Kq:List ApiValue->JrdDecoder->List ApiLink×JrdDecoder |[],d=>([],d)|x::xs,d=>let l:=Yj d x;let r:=Kq xs l.2;(l.1::r.1,r.2)
def OG:List ApiValue->JrdDecoder->List B8×JrdDecoder |[],d=>([],d)|x::xs,d=>let l:=Qa d x;let r:=OG xs l.2;(l.1::r.1,r.2)
def AMS (gs ga gp gl:ApiValue×Bool):ApiJRD×Int:=
  let s:=Il ⟨0⟩ gs
  let m:=IU s.2 ga 6
  let a:=OG m.1.items m.2
  let p:=Rz a.2 gp true
  let m2:=IU p.2 gl 6
  let l:=Kq m2.1.items m2.2
  if l.2.e !=0 then(ApiJRD.mk [] [] [] [],l.2.e)else(ApiJRD.mk s.1 a.1 p.1 l.1,0)
def Tk (v:ApiValue):ApiJRD×Int:=if v.kind !=7 then(ApiJRD.mk [] [] [] [],160)else AMS (DV v ADC) (DV v AWe) (DV v Qu) (DV v XG)
section
variable{N:Nat}
def AL9 (d:JrdDecoder) (x:Int):F5 N d x=some (KZ d x):=by unfold F5 KZ;split<;>rfl
def AJ7 (d:JrdDecoder) (v:ApiValue):Hg N d v=some (Qa d v):=by unfold Hg Qa;rw[AL9];split<;>rfl
def AFq (d:JrdDecoder) (v:ApiValue) (key:B8) (hb:v.keys.length<=900000):EC N d v key=some (Il d (DV v key)):=by unfold EC Il;rw[AT0 v key hb,aa,AJ7,aa];split<;>rfl
def AjN (v:ApiValue):Sa N v=some (Su v:Int):=by
 unfold Sa Su;split;·congr 1;split<;>omega
 ·rfl
def ARH (d:JrdDecoder) (v:ApiValue) (key:B8) (kind:Int) (hb:v.keys.length<=900000):GR N d v key kind 64=some (IU d (DV v key) kind):=by
 unfold GR IU;rw[AT0 v key hb,aa];simp only[AA,AjN,AL9,aa];cases h1:(DV v key).2;·simp[zeroV]
 ·cases h2:(d.e !=0)
  ·simp only[aU,cx,aj,aq,av];split;·rfl
   ·have:decide ((Su (DV v key).1:Int)>64)=decide (64<Su (DV v key).1):=by rw[dc];omega
    rw[this];simp only[au];split<;>rfl
  ·simp[zeroV]
def AC1 (null:Bool) (m:ApiValue×JrdDecoder) (k4:List ApiProperty×JrdDecoder->Option (List ApiProperty×JrdDecoder)): ∀(ks:List B8) (xs:List ApiValue) (pre:List B8) (out:List ApiProperty) (d:JrdDecoder),m.1.keys=pre++ks->out.length+min ks.length xs.length<=1000->BZ N null m k4 xs (pre.length:Int) out d=k4 (out++(IJ null ks xs d).1,(IJ null ks xs d).2)
 | ks,[],pre,out,d,hl,_=>by rw[BZ];cases ks<;>simp[IJ]
 | [],x::xs,pre,out,d,hl,_=>by
  have h5:decide ((pre.length:Int)>=(m.1.keys.length:Int))=true:=by rw[hl];simp
  rw[BZ,h5,ah rfl];simp[IJ]
 | y::ks,x::xs,pre,out,d,hl,hb=>by
  simp only[ag]at hb;have h5:decide ((pre.length:Int)>=(m.1.keys.length:Int))=false:=by rw[hl];simp;omega
  have ih:=λp:ApiProperty=>λd':JrdDecoder=>AC1 null m k4 ks xs (pre++[y]) (out++[p]) d' (by rw[hl];simp) fJ;rw[BZ,h5,ADL hl,aa,SF pre y];simp only[aj,aq,AA,AJ7,aa];simp only[APw (show out.length+1<=1000000 by omega) (show(40:Nat)<=100000 by omega),ih,aF,cL];rw[IJ];simp only[X6];cases null<;>cases h7:x.kind==1<;>simp
def AFR (d:JrdDecoder) (g:ApiValue×Bool):min (IU d g 7).1.keys.length (IU d g 7).1.items.length<=64:=by
 unfold IU;split;·simp[zeroV]
 ·split;·simp[zeroV]
  ·split;·simp[zeroV]
   ·rename_i h1 h2 h3;have:(g.1.kind==7)=true:=by simpa using h2
    simp only[Su,this,av]at h3;simpa using h3
def AC6 (d:JrdDecoder) (g:ApiValue×Bool) (kind:Int):(IU d g kind).1=g.1\/(IU d g kind).1=zeroV:=by
 unfold IU;split;·exact .inr rfl
 ·split;·exact .inr rfl
  ·split;·exact .inr rfl
   ·exact .inl rfl
inductive okV:ApiValue->Prop |mk (v:ApiValue) (hk:v.keys.length<=900000) (hi:v.items.length<=900000) (h: ∀x,x∈v.items->okV x):okV v
def okV.keys{v:ApiValue}:okV v->v.keys.length<=900000|.mk _ h _ _=>h
def okV.items{v:ApiValue}:okV v->v.items.length<=900000|.mk _ _ h _=>h
theorem okV.sub{v:ApiValue}:okV v-> ∀x,x∈v.items->okV x|.mk _ _ _ h=>h
def Uo:okV zeroV:=.mk _ (by simp[zeroV]) (by simp[zeroV]) (by simp[zeroV])
def AHn{v:ApiValue} (h:okV v) (key:B8):okV (DV v key).1:=by
 rcases AQN v key with e|e;·exact h.sub _ e
 ·rw[e];exact Uo
def AFA{g:ApiValue×Bool} (h:okV g.1) (d:JrdDecoder) (kind:Int):okV (IU d g kind).1:=by
 rcases AC6 d g kind with e|e<;>rw[e];·exact h
 ·exact Uo
def ARf (d:JrdDecoder) (v:ApiValue) (key:B8) (null:Bool) (hv:okV v):EI N d v key null=some (Rz d (DV v key) null):=by have hc:=AFR d (DV v key);unfold EI Rz;rw[ARH d v key 7 hv.keys,aa,AA,BV (by have:=(AFA (AHn hv key) d 7).items;omega)];have:=AC1 (N:=N) null (IU d (DV v key) 7) (λj12=>some (j12.1,j12.2)) (IU d (DV v key) 7).1.keys (IU d (DV v key) 7).1.items [] [] (IU d (DV v key) 7).2 rfl fJ;simpa using this
def AlP (d:JrdDecoder) (v:ApiValue) (hv:okV v):KN N d v=some (Yj d v):=by unfold KN Yj;simp only[AA,AT0 v _ hv.keys,AFq _ v _ hv.keys,ARf _ v _ _ hv,AL9,aa];simp only[AgT,AXr,AWw,AIn,ABN,Qu];rcases Bool.eq_false_or_eq_true (DV v [114,101,108]).2 with h|h<;>simp only[h,aj,aq,av]
def ACv (k19:List ApiLink×JrdDecoder->Option (ApiJRD×Int)): ∀(xs:List ApiValue) (out:List ApiLink) (d:JrdDecoder),out.length+xs.length<=1000->(∀x,x∈xs->okV x)->IA N k19 xs out d=k19 (out++(Kq xs d).1,(Kq xs d).2) |[],out,d,_,_=>by rw[IA];simp[Kq]| x::xs,out,d,hb,hw=>by simp only[ag]at hb;rw[IA,AA,AlP d x (hw x fH),aa,APw fG fG];refine(ACv k19 xs _ _ fJ (λy hy=>hw y (by simp[hy]))).trans ?_;simp only[Kq,aF,cL]
def ACc (k4:List B8×JrdDecoder->Option (ApiJRD×Int)): ∀(xs:List ApiValue) (out:List B8) (d:JrdDecoder),out.length+xs.length<=1000->Hz N k4 xs out d=k4 (out++(OG xs d).1,(OG xs d).2) |[],out,d,_=>by rw[Hz];simp[OG]| x::xs,out,d,hb=>by simp only[ag]at hb;rw[Hz,AA,AJ7,aa,APw fG fG];refine(ACc k4 xs _ _ fJ).trans ?_;simp only[OG,aF,cL]
def Zu (d:JrdDecoder) (g:ApiValue×Bool):(IU d g 6).1.items.length<=64:=by
 unfold IU;split;·simp[zeroV]
 ·split;·simp[zeroV]
  ·split;·simp[zeroV]
   ·rename_i h1 h2 h3;have:g.1.kind=6:=by simpa using h2
    simp only[Su,this]at h3;simpa using h3
def ArZ (v:ApiValue) (hv:okV v):QW N v=some (Tk v):=by
 unfold QW Tk AMS;split;·rfl
 ·simp only[AA,AFq _ v _ hv.keys,ARH _ v _ _ hv.keys,ARf _ v _ _ hv,aa];rw[BV (by have:=Zu (Il ⟨0⟩ (DV v [115,117,98,106,101,99,116])).2 (DV v [97,108,105,97,115,101,115]);omega),ACc _ _ _ _ (by have:=Zu (Il ⟨0⟩ (DV v [115,117,98,106,101,99,116])).2 (DV v [97,108,105,97,115,101,115]);simp;omega)];simp only[aT];rw[BV (by exact bA (Zu ..) fG),ACv _ _ _ _ (by have h:=λd=>Zu d (DV v [108,105,110,107,115]);exact bA (Nat.add_le_add (aw _) (h _)) fH) (λx hx=>(AFA (AHn hv _) _ _).sub x hx)];simp only[ADC,AWe,Qu,XG,aT];exact(apply_ite some ..).symm
end
end Go.VM
namespace Go.VM
def few (v:ApiValue) (n:Nat):Prop:=v.keys.length<=n/\v.items.length<=n
def few.mono{v:ApiValue}{n k:Nat} (h:few v n) (hk:n<=k):few v k:=⟨bA h.1 hk,bA h.2 hk⟩
section
variable{N:Nat}
end
end Go.VM
namespace Go.VM
section
variable{N:Nat}
def ACY (null:Bool): ∀(ks:List B8) (xs:List ApiValue) (d:JrdDecoder),(IJ null ks xs d).1.length=min ks.length xs.length |[],xs,d=>by cases xs<;>simp[IJ]|k::ks,[],d=>by simp[IJ]|k::ks,x::xs,d=>by rw[IJ];simp only[ag,ACY null ks xs];omega
def WW (d:JrdDecoder) (g:ApiValue×Bool) (null:Bool):(Rz d g null).1.length<=64:=by unfold Rz;simp only[ACY];exact AFR d g
def ACr: ∀(xs:List ApiValue) (d:JrdDecoder),(OG xs d).1.length=xs.length |[],d=>rfl|x::xs,d=>by simp only[OG,ag,ACr xs]
def XA: ∀(xs:List ApiValue) (d:JrdDecoder),(Kq xs d).1.length=xs.length/\∀l,l∈(Kq xs d).1->l.titles.length<=64/\l.properties.length<=64
 |[],d=>⟨rfl,by simp[Kq]⟩
 | x::xs,d=>by
  obtain⟨h1,h2⟩:=XA xs (Yj d x).2;refine⟨by simp only[Kq,ag,h1],λl hl=>?_⟩;simp only[Kq,aI]at hl;rcases hl with rfl|hl;·exact⟨WW ..,WW ..⟩
  ·exact h2 l hl
def AgX (gs ga gp gl:ApiValue×Bool):(AMS gs ga gp gl).1.aliases.length<=64/\(AMS gs ga gp gl).1.properties.length<=64/\(AMS gs ga gp gl).1.links.length<=64/\∀l,l∈(AMS gs ga gp gl).1.links->l.titles.length<=64/\l.properties.length<=64:=by
 unfold AMS;simp only[];split;·simp
 ·refine⟨by simp only[ACr];exact Zu ..,WW ..,by simp only[(XA _ _).1];exact Zu ..,(XA _ _).2⟩
def AhZ (v:ApiValue):(Tk v).1.aliases.length<=64/\(Tk v).1.properties.length<=64/\(Tk v).1.links.length<=64/\∀l,l∈(Tk v).1.links->l.titles.length<=64/\l.properties.length<=64:=by
 unfold Tk;split;·simp
 ·exact AgX ..
end
end Go.VM
