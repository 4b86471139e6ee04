import Derived.Test.YtenhbiooanampaaGreatDoorL9
set_option linter.defProp false
set_option linter.unusedVariables false
set_option linter.unusedSimpArgs false
set_option maxRecDepth 100000
namespace Go.VM
section
def Aa0 (d:ApiDID):KU (toS 1099511627776 d).1:=by
 by_cases h:((toS 1099511627776 d).2 !=0)=true
 ·have e:(toS 1099511627776 d).1=Mf:=by
   unfold toS at h⊢;split;·rfl
   ·split;·rfl
    ·split;·rfl
     ·rename_i h1 h2 h3;rw[aj h1,aj h2,aj h3]at h;cases h
  rw[e];exact Ze
 ·obtain⟨e,l,_,_⟩:=ABu h;refine⟨?_,l⟩;rw[e];exact ABb h
def AgF{N:Nat} (hN:1000020<=N){l:List ApiAnswer}{t:Int}{u:ApiURL} (hu:KU u){r:ApiResponse×Int} (h:PO N l t u=some r) (h0:r.2=0):Lb N u=true:=by
 cases hv:Lb N u;·exfalso;unfold PO Pi at h;rw[M5 u hu.1 (by have:=hu.2;omega) fH,aa]at h;obtain⟨m,rfl⟩: ∃m,N=m+1:=⟨N-1,fH⟩;simp only[AB,hv,aq,az,aa,Hr,aB,ag]at h;rw[<-h]at h0;exact absurd h0 fJ
 ·rfl
def Adz{l:List ApiAnswer} (hl:l.length<=1000) (hW: ∀a,a∈l->WR 1099511627776 P7 a.raw) (t:Int){d:ApiDID} (hm:d.method.length<=4096) (hi:d.iD.length<=16000):∃v w r e,JI 1099511627776 l t d=some (v,r,e)/\LJ 1099511627776 l t d=some (w,r,e)/\Ie 1099511627776 1099511627776 v w=some true/\AaR 9000 r:=by
 have hg:=Aa0 d;have g0: ∀tr:List ApiExchange,tr.length<=10->AaR 9000 (ApiResponse.mk (ApiURL.mk [] 0 [] [] [] false false) (ApiHead.mk 0 0 []) [] tr):=λtr h=>⟨Aj0,aK _,h⟩;unfold JI LJ;rw[AZs d hm hi fH,AaB d hm hi fH,aa,aa];generalize toS 1099511627776 d=U at *;cases hU:U.2 !=0
 ·obtain⟨r,r1,r2,r3,r4⟩:=AWx (N:=1099511627776) (B:=9000) fH (l:=l) fH t (λa ha=>(hW a ha).1) fH hg;simp only[aq,az,r1,r2,aa];cases hr:(r.2 !=0)
  ·have hr0:r.2=0:=by simpa using hr
   obtain⟨s1,_⟩:=r4 (AgF fH hg r1 hr0);obtain⟨w,w',w1,w2,w3,w4⟩:=AWW hW (s1 hr0) r3.1 r.1.uRL r.1.trace hm hi;simp only[aq,az,w1,w2,w3,aa];cases hw:(w'.2 !=0);·exact⟨_,_,_,_,rfl,rfl,w4,r3⟩
   ·exact⟨_,_,_,_,rfl,rfl,Ul,g0 _ r3.2.2⟩
  ·exact⟨_,_,_,_,rfl,rfl,Ul,g0 _ r3.2.2⟩
 ·exact⟨_,_,_,_,rfl,rfl,Ul,g0 _ (aK _)⟩
def ABL{y:List ApiAnswer×MadeDice} (hl:y.1.length<=1000) (hW: ∀a,a∈y.1->WR 1099511627776 P7 a.raw) (t:Int) (k:Unit->Option Bool): ∀xs:List ApiDID,(∀d,d∈xs->d.method.length<=4096/\d.iD.length<=16000)->CY 1099511627776 t y k xs=k ()|[],_=>rfl|d::xs,h=>by obtain⟨v,w,r,e,h1,h2,h3,h4⟩:=Adz hl hW t (h d (.head _)).1 (h d (.head _)).2;rw[CY,h1,h2];dsimp only[AB,Option.bind_some];rw[h3,Ab5 h4,aj fI,aa,aa,an rfl,aj fJ];exact ABL hl hW t k xs λd hd=>h d (.tail _ hd)
end
end Go.VM
