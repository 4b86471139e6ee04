import Derived.Test.YtenhbiooanampaaGreatDoorL11
import Derived.Test.YtenhbiooanampaaGreatDoorL12
import Derived.Test.YtenhbiooanampaaGreatDoorL13
import Derived.Test.YtenhbiooanampaaGreatDoorL14
import Derived.Test.YtenhbiooanampaaGreatDoorRd
set_option linter.defProp false
set_option linter.unusedVariables false
set_option linter.unusedSimpArgs false
set_option maxRecDepth 100000
namespace Go.VM
section
def AaD{ab:B8} (h:AsW 1099511627776 ab=true): ∀sv,sv∈WG ab->Ok (ABF 1099511627776 ab [Ap9] sv) P7:=by
 intro sv hsv;unfold AsW at h;have:=aL.1 h sv hsv;split at this;·rename_i b hbb;rw[Yt]at this;exact⟨b,hbb,this⟩
 ·cases this
def Ae3 (t:B8) (h:t∈AfD):Ajz 1099511627776 t=true:=by
 obtain⟨i,hi,e⟩:=List.mem_iff_getElem.1 h;have hl:AfD.length=16:=fJ;have hc: ∀k,k<16->Ox k=true:=by intro k hk;match k,hk with|0,_=>exact Au1|1,_=>exact AxC|2,_=>exact Awt|3,_=>exact AvR|4,_=>exact Avt|5,_=>exact Auh|6,_=>exact Aue|7,_=>exact Aui|8,_=>exact Awl|9,_=>exact Av0|10,_=>exact AsF|11,_=>exact ApM|12,_=>exact App|13,_=>exact AsC|14,_=>exact Apl|15,_=>exact Ar1|q+16,hq=>exact absurd hq fH
 have:=hc i fH;unfold Ox at this;rw[aS hi]at this;rw[<-e];exact this
structure IdU (id:ApiID) (d:ApiDID):Prop where
  kind:id.kind=4
  len:id.text.length<=1000
  dlen:d.method.length<=1000/\d.iD.length<=1000
  ex: ∃(x:ApiDID×Int) (u:ApiURL×Int),CZ 1099511627776 id.text=some x/\Hy 1099511627776 x.1=some u/\KU u.1
  docs: ∀ab,ab∈[id.text,Yg]-> ∀sv,sv∈WG ab->Ok (ABF 1099511627776 ab [Ap9] sv) P7
def Aka{t:B8} (h:t∈AfD){y:ApiID×Int} (hy:FH 1099511627776 t=some y): ∃x,CZ 1099511627776 y.1.text=some x/\IdU y.1 x.1:=by
 have h0:=aL.1 Azy t h;have h1:=Ae3 t h;unfold idU at h0;unfold Ajz at h1;rw[hy]at h0 h1;simp only at h0 h1;rw[aw,aw,bf,au]at h0;obtain⟨a1,a2,h0⟩:=h0;split at h0
 ·rename_i x hx;rw[aw,aw,au,au]at h0;obtain⟨b1,b2,h0⟩:=h0;split at h0
  ·rename_i u hu;refine⟨x,hx,a1,a2,⟨b1,b2⟩,⟨x,u,hx,hu,(ATF h0).1⟩,λab hab=>?_⟩;rcases aM.1 hab with e|e;·rw[e];exact AaD h1
   ·rw[aY.1 e];exact AaD Aur
  ·cases h0
 ·cases h0
def AFe (k5:MadeDice->Option (ApiID×ApiDID)) (hk: ∀d,Ok (k5 d) λy=>IdU y.1 y.2): ∀(k:Nat) (d:MadeDice),GK d->Ok (Dh 1099511627776 k5 k d) λy=>IdU y.1 y.2
 |0,d,_=>by rw[Dh];exact hk d
 |k+1,d,h1=>by
  rw[Dh];refine .bind (AwD h1) λt ⟨ht,hd⟩=>?_;have hc:=aL.1 AxZ t.1 ht;split at hc;·rename_i y hy;rw[hy,aa];refine .ite (λh4=>?_) λ_=>AFe k5 hk k _ hd;rw[an h4,fm]at hc;obtain⟨x,hx,hI⟩:=Aka hc hy;rw[hx,aa];exact .ret hI
  ·cases hc
def id32{l:List Int} (h: ∀a,a∈l->0<=a/\a<=255):Ok (Jq 1099511627776 l) λy=>IdU y.1 y.2:=by
 unfold Jq;refine .bind (Ax4 l h) λd hd=>?_;rw[AB,AO fJ];refine AFe _ (λ_=>.ret ?_) _ d hd;have hp:FH 1099511627776 [100,105,100,58,119,101,98,58,97,46,101,120,97,109,112,108,101]=some (ApiID.mk 4 ([100,105,100,58,119,101,98,58,97,46,101,120,97,109,112,108,101]:B8) ([97,46,101,120,97,109,112,108,101]:B8) 0,0):=by kernel_rfl
 obtain⟨x,hx,hI⟩:=Aka fJ hp;have hq:CZ 1099511627776 [100,105,100,58,119,101,98,58,97,46,101,120,97,109,112,108,101]=some (ApiDID.mk ([119,101,98]:B8) ([97,46,101,120,97,109,112,108,101]:B8),0):=by kernel_rfl
 simp only at hx;rw[hq]at hx;cases hx;exact hI
def Awg:TE 1099511627776=some true:=by kernel_rfl
theorem TW (a0:List Int) (o0:a0.length<=reachBytes/\∀a,a∈a0->(Lit.int .u8 a).wf=true) (a1:List Int) (o1:a1.length<=reachBytes/\∀a,a∈a1->(Lit.int .u8 a).wf=true) (a2:ApiDID) (o2:ATf a2) (a3:Int) (o3:(Lit.int .u64 a3).wf=true):FE 1099511627776 a0 a1 a2 a3=some true:=by
 have hq:reachBytes=140737488351232:=rfl;unfold FE;rw[Awg,aa,an rfl,Ai (by have:=o2.1;have:=o2.2;omega)];by_cases hm:a2.method.length+a2.iD.length<=500
 ·rw[aj fK];obtain⟨y,e3,hI⟩:=id32 λa ha=>wf_u8 (o0.2 a ha);obtain⟨d,e5,hd⟩:=Ax4 (N:=1099511627776) a1 λa ha=>wf_u8 (o1.2 a ha);obtain⟨hk,hlen,⟨d1,d2⟩,⟨x,u,q1,q2,q3⟩,hdocs⟩:=hI;have hb:=AzP;rw[aw]at hb;obtain⟨w,e8,⟨l1,l2⟩,_⟩:=Aw8 Aqa fH hk (names:=[Ap9]) (P:=P7) hdocs hb.1 hb.2 (λb=>AE5) hlen q1 q2 q3 hd;have e8':O9 1099511627776 d y.1 [([97,99,99,116,58,98,111,98,64,98,46,101,120,97,109,112,108,101]:B8)]=some w:=e8;rw[e3,aa,e5,aa,e8',aa];simp only[AB,letL];rw[A9 fI];exact ABL fH l2 a3 _ [a2,y.2] λz hz=>by
   rcases aM.1 hz with rfl|hz;·exact⟨fH,fH⟩
   ·rw[aY.1 hz];exact⟨fH,fH⟩
 ·rw[an fK]
end
end Go.VM
