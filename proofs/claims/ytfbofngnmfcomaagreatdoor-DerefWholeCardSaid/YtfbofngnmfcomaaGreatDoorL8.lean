import Derived.Test.YtfbofngnmfcomaaGreatDoorL7
set_option linter.defProp false
set_option linter.unusedVariables false
set_option linter.unusedSimpArgs false
set_option maxRecDepth 100000
namespace Go.VM
section
def Ajc{t:B8} (hi:idV 1099511627776 t=true) (hc:AZD 1099511627776 t=true) (hl:t.length<=1000){d:MadeDice} (hd:Gb d): ∃y,LM 1099511627776 t=some y/\Ok (OL 1099511627776 d y.1 [AsD]) λr=>(r.1.length<=200/\∀a,a∈r.1->WR 1099511627776 QT a.raw)/\Gb r.2:=by
 unfold idV at hi;split at hi
 ·rename_i y hy;refine⟨y,hy,?_⟩;rw[av,av,bc,bc]at hi;obtain⟨h1,h2,h3⟩:=hi;split at h3
  ·rename_i x hx;split at h3
   ·rename_i u hu;have hb:=Awv;rw[av]at hb;refine As3 Aoh fx h1 (names:=[AsD]) (P:=QT) (λab hab sv hsv=>?_) hb.1 hb.2 (λb=>AC7) (by rw[h2];exact hl) (x:=x) (u:=u) (by rw[h2];exact hx) hu (Y2 h3).1 hd;have hab':AZD 1099511627776 ab=true:=by
     rcases aP.1 hab with e|e;·rw[e,h2];exact hc
     ·rw[aV.1 e];exact AsF
    unfold AZD at hab';have:=aU.1 hab' sv hsv;split at this;·rename_i b hbb;rw[Xt]at this;exact⟨b,hbb,this⟩
    ·cases this
   ·cases h3
  ·cases h3
 ·cases hi
def AVh{l:List Int} (h: ∀a,a∈l->0<=a/\a<=255):Ok (O5 1099511627776 l) λw=>w.length<=1000/\∀a,a∈w->WR 1099511627776 QT a.raw:=by
 have hid:=AxJ;rw[av]at hid;unfold O5;refine .bind (Awm l h) λd hd=>?_;rw[AC];refine .letL ?_;rw[BU fA];obtain⟨y,y1,y2⟩:=Ajc hid.1 Ash fA hd;rw[Es];unfold aT at y1;rw[y1,aa];refine .bind y2 λr ⟨⟨r1,r2⟩,r3⟩=>?_;refine .grd (F9 (by simp only[ap];omega) fx) ?_;obtain⟨z,z1,z2⟩:=Ajc hid.2 Ar9 fA r3;rw[Es];unfold auT at z1;rw[z1,aa];refine .bind z2 λs ⟨⟨s1,s2⟩,s3⟩=>?_;refine .grd (F9 (by simp only[ah,ap];omega) fx) ?_;rw[Es];refine .ret ⟨by simp only[ah,ap];omega,λa ha=>?_⟩;rcases aX.1 ha with ha|ha;·exact r2 a (by simpa using ha)
 ·exact s2 a ha
def AsH:Sd 1099511627776=some true:=by kernel_rfl
def ASJ (tr:List ApiExchange) (h:tr.length<=10):IB 1099511627776 tr tr=some true:=by have f2:=ADk (N:=1099511627776) (λ_=>some true) tr [];rw[ap,bk,show((0:Nat):Int)=0 from rfl]at f2;unfold IB;simp only[AC,bne_self_eq_false,aj,aA];rw[BU fx,f2]
def Y6 (a0:List Int) (o0:a0.length<=reachBytes/\∀a,a∈a0->(Lit.int .u8 a).wf=true) (a1:B8) (o1:a1.length<=reachBytes) (a2:Int) (o2:(Lit.int .u64 a2).wf=true):JI 1099511627776 a0 a1 a2=some true:=by
 unfold JI;rw[AsH,aa,aq rfl];cases hlen:decide ((a1.length:Int)>1000)
 ·have hl:a1.length<=1000:=by have:=of_decide_eq_false hlen;omega
  obtain⟨w,e3,w1,w2⟩:=AVh λa ha=>wf_u8 (o0.2 a ha);obtain⟨v,v',r,e,d1,d2,d3,d4,d5⟩:=AeM w1 w2 a2;have run: ∀(s:B8) (u:B8×Bool),J6 1099511627776 s=some (⟨PK,[],[],u.1,false,u.2⟩,0)->J9 1099511627776 w a2 s=if(e !=0)=true then some ((ApiDeref.mk [] (ApiValue.mk 0 [] [] []) r.trace),e)else(Mi 1099511627776 v ⟨PK,[],[],u.1,false,u.2⟩).bind λy7=>some ((ApiDeref.mk y7.1.uRL y7.1.value r.trace),y7.2):=by intro s u hs;unfold J9;simp only[hs,aa,(by decide:((0:Int) !=0)=false),aj,aA,AtA,d1]
  have run1: ∃y,J9 1099511627776 w a2 aT=some y/\y.2=e/\Iz 1099511627776 1099511627776 y.1.value v'=some true/\y.1.uRL=[]/\y.1.trace=r.trace:=by
   rw[run aT ([],false) ASS];cases he:(e !=0)
   ·simp only[aj,aA];rw[(ADC d3.2 (f:=[]) fA).1,aa];exact⟨_,rfl,by
     have:e=0:=by simpa using he
     rw[this],d3.1,rfl,rfl⟩
   ·exact⟨_,rfl,rfl,by rw[d5 (by simpa using he)];exact R8.1,rfl,rfl⟩
  have run2: ∃y,J9 1099511627776 w a2 (aT++35::a1)=some y/\(y.1.trace=[]\/y.1.trace=r.trace):=by
   rcases AXD hl with⟨e',p1,p2⟩|⟨f,f1,p1⟩;·refine⟨((ApiDeref.mk [] (ApiValue.mk 0 [] [] []) []),e'),?_,.inl rfl⟩;unfold J9;rw[p1,aa];simp only[show(e' !=0)=true by simpa using p2,aD]
   ·rw[run _ (f,true) p1];cases (e !=0);·simp only[aj,aA];obtain⟨y,hy⟩:=(ADC d3.2 (f:=f) fx).2;rw[hy,aa];exact⟨_,rfl,.inr rfl⟩
    ·exact⟨_,rfl,.inr rfl⟩
  obtain⟨y,y1,y2,y3,y4,y5⟩:=run1;obtain⟨z,z1,z2⟩:=run2;have tr:=ASJ r.trace d4;unfold PK at d2;unfold aT at y1;have z1':J9 1099511627776 w a2 (([100,105,100,58,119,101,98,58,97,46,101,120,97,109,112,108,101,35]:B8)++a1)=some z:=z1;simp only[aj,aA,e3,aa,d2,y1];rw[BU (by simp only[ag,ap];omega),z1',aa,y2];simp only[dt,aD,y3,aa,y4,y5,tr];rcases z2 with h|h;·simp only[h,ap];rfl
  ·simp only[h,tr,aa];split<;>rfl
 ·rw[aq rfl]
end
end Go.VM
