import Derived.Test.YtalbfkgififmfaaGreatDoorL11
import Derived.Test.YtalbfkgififmfaaGreatDoorL12
import Derived.Test.YtalbfkgififmfaaGreatDoorL13
import Derived.Test.YtalbfkgififmfaaGreatDoorL14
import Derived.Test.YtalbfkgififmfaaGreatDoorL15
import Derived.Test.YtalbfkgififmfaaGreatDoorL16
import Derived.Test.YtalbfkgififmfaaGreatDoorL17
import Derived.Test.YtalbfkgififmfaaGreatDoorL18
import Derived.Test.YtalbfkgififmfaaGreatDoorRd
set_option linter.defProp false
set_option linter.unusedVariables false
set_option linter.unusedSimpArgs false
set_option maxRecDepth 100000
namespace Go.VM
section
def Ab6{id:AD}{ab:B8} (h:A0d 1099511627776 id ab=true): ∀sv,sv∈X3 ab->Ok (ADV 1099511627776 ab (nmX id) sv) QB:=by
 intro sv hsv;unfold A0d at h;have:=aK.1 h sv hsv;split at this;·rename_i b hbb;rw[AAZ]at this;exact⟨b,hbb,this⟩
 ·cases this
def AFz (p:Nat) (hp:p<2) (t:B8) (h:t∈Adq):AlF 1099511627776 p t=true:=by
 obtain⟨i,hi,e⟩:=List.mem_iff_getElem.1 h;have hl:Adq.length=16:=fO;have hc: ∀k,k<16->ER p k=true:=by intro k hk;match p,k,hp,hk with|0,0,_,_=>exact Atq|0,1,_,_=>exact AtT|0,2,_,_=>exact Att|0,3,_,_=>exact Av6|0,4,_,_=>exact Aww|0,5,_,_=>exact AwN|0,6,_,_=>exact Asm|0,7,_,_=>exact AuN|0,8,_,_=>exact Ata|0,9,_,_=>exact Awy|0,10,_,_=>exact AlN|0,11,_,_=>exact ApN|0,12,_,_=>exact Ap4|0,13,_,_=>exact Amc|0,14,_,_=>exact AoV|0,15,_,_=>exact Aml|1,0,_,_=>exact Awr|1,1,_,_=>exact Auq|1,2,_,_=>exact Ass|1,3,_,_=>exact Ava|1,4,_,_=>exact Awb|1,5,_,_=>exact Avu|1,6,_,_=>exact Awn|1,7,_,_=>exact Aua|1,8,_,_=>exact As9|1,9,_,_=>exact Avb|1,10,_,_=>exact Aq1|1,11,_,_=>exact AoH|1,12,_,_=>exact AoN|1,13,_,_=>exact Aom|1,14,_,_=>exact Aoo|1,15,_,_=>exact ApQ|0,q+16,_,hq=>exact absurd hq fM|1,q+16,_,hq=>exact absurd hq fM|q+2,_,hq,_=>exact absurd hq fM
 have:=hc i fM;unfold ER at this;rw[aS hi]at this;rw[<-e];exact this
structure IdX (id:AD):Prop where
  kind:id.kind=4
  len:id.text.length<=1000
  ex: ∃(x:AF×Int) (u:As×Int),Cc 1099511627776 id.text=some x/\Ic 1099511627776 x.1=some u/\K9 u.1
  docs: ∀ab,ab∈[id.text,AAw]-> ∀sv,sv∈X3 ab->Ok (ADV 1099511627776 ab (nmX id) sv) QB
def Aks{t:B8} (h:t∈Adq){y:AD×Int} (hy:EH 1099511627776 t=some y):(∃x,Cc 1099511627776 y.1.text=some x)/\IdX y.1:=by
 have h0:=aK.1 A3Y t h;have h1:=AFz 0 fM t h;have h2:=AFz 1 fM t h;unfold idX at h0;unfold AlF at h1 h2;rw[hy]at h0 h1 h2;simp only[az]at h0 h1 h2;rw[aj fO]at h2;rw[aw,aw,be,au]at h0;obtain⟨a1,a2,h0⟩:=h0;split at h0
 ·rename_i x hx;split at h0
  ·rename_i u hu;refine⟨⟨x,hx⟩,a1,a2,⟨x,u,hx,hu,(AVa h0).1⟩,λab hab=>?_⟩;rcases aO.1 hab with e|e;·rw[e];exact Ab6 h1
   ·rw[aV.1 e];exact Ab6 h2
  ·cases h0
 ·cases h0
def AGw (k5:AI->Option (AD×AF)) (hk: ∀d,Ok (k5 d) λy=>IdX y.1): ∀(k:Nat) (d:AI),Gd d->Ok (Dq 1099511627776 k5 k d) λy=>IdX y.1
 |0,d,_=>by rw[Dq];exact hk d
 |k+1,d,h1=>by
  rw[Dq];refine .bind (Ayq h1) λt ⟨ht,hd⟩=>?_;have hc:=aK.1 A09 t.1 ht;split at hc;·rename_i y hy;rw[hy,aa];refine .ite (λh4=>?_) λ_=>AGw k5 hk k _ hd;rw[an h4,ft]at hc;obtain⟨⟨x,hx⟩,hI⟩:=Aks hc hy;rw[hx,aa];exact .ret hI
  ·cases hc
def A3o{l:List Int} (h: ∀a,a∈l->0<=a/\a<=255):Ok (KY 1099511627776 l) λy=>IdX y.1:=by
 unfold KY;refine .bind (A2A l h) λd hd=>?_;rw[AB,AP fO];refine AGw _ (λ_=>.ret ?_) _ d hd;have hp:EH 1099511627776 [100,105,100,58,119,101,98,58,97,46,101,120,97,109,112,108,101]=some (AD.mk 4 ([100,105,100,58,119,101,98,58,97,46,101,120,97,109,112,108,101]:B8) ([97,46,101,120,97,109,112,108,101]:B8) 0,0):=by kernel_rfl
 exact(Aks fO hp).2
def Aym:Ut 1099511627776=some true:=by kernel_rfl
theorem AvD (x:AD) (h:AKA x):Zv 1099511627776 x=some (decide (x.text.length+x.d.length<=1000)):=by have hq:reachBytes=140737488351232:=rfl;have:=h.2.1;have:=h.2.2.1;unfold Zv;rw[Ak fM];simp only[ah,decide_eq_decide];omega
def Av1 (l:List B8): ∃b,Po 1099511627776 l 70 300=some b/\(b=true->l.length<=70/\∀s,s∈l->s.length<=300):=by
 unfold Po;dsimp only[AB];by_cases hl:l.length<=70
 ·rw[aF (show¬(l.length:Int)>70 by omega),aj fO,Ap fM];have: ∀xs:List B8,∃b,Hu 1099511627776 300 (λ_=>some true) xs=some b/\(b=true->∀s,s∈xs->s.length<=300):=by
   intro xs;induction xs with
   |nil=>exact⟨true,rfl,λ_ s hs=>by cases hs⟩
   | cons x xs ih=>
    rw[Hu];obtain⟨b,h1,h2⟩:=ih;by_cases hx:x.length<=300
    ·rw[aF (show¬(x.length:Int)>300 by omega),aj fO];refine⟨b,h1,λhb s hs=>?_⟩;rcases aO.1 hs with rfl|hs;·exact hx
     ·exact h2 hb s hs
    ·rw[aC (show(x.length:Int)>300 by omega),an rfl];exact⟨false,rfl,λh=>by cases h⟩
  obtain⟨b,h1,h2⟩:=this l;exact⟨b,h1,λhb=>⟨hl,h2 hb⟩⟩
 ·rw[aC (show(l.length:Int)>70 by omega),an rfl];exact⟨false,rfl,λh=>by cases h⟩
def YI (a0:List Int) (o0:a0.length<=reachBytes/\∀a,a∈a0->(Lit.int .u8 a).wf=true) (a1:List Int) (o1:a1.length<=reachBytes/\∀a,a∈a1->(Lit.int .u8 a).wf=true) (a2:AD) (o2:AKA a2) (a3:Cd) (o3:ATB a3) (a4:Int) (o4:(Lit.int .u64 a4).wf=true):IC 1099511627776 a0 a1 a2 a3 a4=some true:=by
 unfold IC;rw[Aym,aa,an rfl,AvD a2 o2];simp only[AB,letL,aa];by_cases hm:a2.text.length+a2.d.length<=1000
 ·obtain⟨b,b1,b2⟩:=Av1 a3.also;rw[aC hm,an rfl,b1,aa];cases b;·simp only[ba,az]
  ·obtain⟨c1,c2⟩:=b2 rfl;simp only[bo,ap,aA];obtain⟨y,e3,hI⟩:=A3o λa ha=>wf_u8 (o0.2 a ha);obtain⟨d,e5,hd⟩:=A2A (N:=1099511627776) a1 λa ha=>wf_u8 (o1.2 a ha);obtain⟨hk,hlen,⟨x,u,q1,q2,q3⟩,hdocs⟩:=hI;have hb:=A3s;rw[aw]at hb;obtain⟨w,e8,⟨l1,l2⟩,_⟩:=Ay7 AuG fM hk (names:=nmX y.1) (P:=QB) hdocs hb.1 hb.2 (λb=>AGH) hlen q1 q2 q3 hd;unfold nmX A1I at e8;rw[e3,aa,e5,aa,e8,aa,Ap fN,ABf fM l2 a4 _ [a2,y.1] λz hz=>by
    rcases aO.1 hz with rfl|hz;·omega
    ·rw[aV.1 hz];exact hlen];obtain⟨L,L1,L2,L3⟩:=Abl (p:=a3) (q:=a3) rfl fM (λs hs=>by have:=c2 s hs;omega) y.1;rw[L1,L2,aa,aa,AD4 (N:=1099511627776) L fM,aa]
 ·rw[aF hm];simp only[ap,aA,az]
end
end Go.VM
