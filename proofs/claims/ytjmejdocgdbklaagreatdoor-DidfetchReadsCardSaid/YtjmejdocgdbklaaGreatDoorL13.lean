import Derived.Test.YtjmejdocgdbklaaGreatDoorL12
import Derived.Test.YtjmejdocgdbklaaGreatDoorRd
import Derived.KernelRfl
set_option linter.defProp false
set_option linter.unusedVariables false
set_option linter.unusedSimpArgs false
namespace Go.VM
section
variable{N:Nat}
def AoU:Rz 1099511627776=some true:=by kernel_rfl
def Abd{l:List Int} (h: ∀a,a∈l->0<=a/\a<=255):Ok (RL N l) λd=>Qw d/\d.l.length<=1000:=by
 unfold RL;have hm: ∃n:Nat,(if 200<(l.length:Int)then 200 else(l.length:Int))=(n:Int)/\n<=l.length/\n<=200:=by
  by_cases h2:200<(l.length:Int);·exact⟨200,by rw[ah h2];rfl,fy,aw _⟩
  ·exact⟨l.length,by rw[ae h2],aw _,fy⟩
 obtain⟨n,e,n1,n2⟩:=hm;rw[e,show(0:Int)=((0:Nat):Int)from rfl,BB l 0 n (bK _) n1,aa];refine .ret ⟨λa ha=>h a ?_,?_⟩;·simp only[aY,bP]at ha;exact dt ha
 ·simp;omega
def idB (x:ApiID×ApiDID):Prop:=x.1.text.length<=100000/\x.2.method.length<=4096/\x.2.iD.length<=12288
def AE6 (hN:20000<=N) (k5:MadeDice->Option (ApiID×ApiDID)) (hk: ∀d,Ok (k5 d) idB): ∀(k:Nat) (d:MadeDice),Qw d->d.l.length<=1000->Ok (DY N k5 k d) idB |0,d,_,_=>by rw[DY];exact hk d| k+1,d,h1,h2=>by rw[DY];refine .bind (Ag1 h1 h2) λt ⟨ht,h3,h4⟩=>?_;rw[ATC _ fy hN,aa];refine .ite (λ_=>?_) λ_=>AE6 hN k5 hk k _ h3 h4;have:=(Apu (N:=N) t.1).2.2;rw[Wl _ fy fy,aa];exact .ret ⟨this,QI _⟩
def AiD{l:List Int} (h: ∀a,a∈l->0<=a/\a<=255) (hN:20000<=N):Ok (J3 N l) idB:=by unfold J3;refine .bind (Abd h) λd ⟨d1,d2⟩=>?_;rw[AA,AJ fB];exact AE6 hN _ (λ_=>.ret ⟨fB,fB,fB⟩) _ d d1 d2
def ACZ (r:ApiResponse) (hr:hdB r.head) (hb:r.body.length<=10000) (hN:3000000<=N) (hN2:N<=1099511627776) (k:Unit->Option Bool): ∀xs:List ApiDID,(∀d,d∈xs->d.method.length<=500000/\d.iD.length<=400000)->CX N r k xs=k () |[],_=>rfl| d::xs,h=>by obtain⟨v,e,a1,a2,a3,a4⟩:=AZM (N:=N) r hr hb d (h d (.head _)) hN hN2;have hs:=AEJ (N:=N) N 65 v a3 fy;rw[CX,a1,a2];dsimp only[AA,Option.bind_some];rw[hs,ae fA,aa,ae fB,ACZ r hr hb hN hN2 k xs λd hd=>h d (.tail _ hd)]
end
theorem Vr (r:ApiResponse) (hr:VR r) (d:ApiDID) (hd:APo d) (l:List Int) (hl:l.length<=reachBytes/\∀a,a∈l->(Lit.int .u8 a).wf=true):II 1099511627776 r d l=some true:=by
 have hq:reachBytes=140737488351232:=rfl;unfold II;rw[AoU,aa,ah rfl];dsimp only[AA];obtain⟨b,e,hk⟩:=Ao9 (N:=1099511627776) r.head hr.2.1;rw[e,aa];cases b;·rfl
 ·obtain⟨k1,k2⟩:=hk rfl;rw[ah rfl];by_cases hb:r.body.length<=1500
  ·rw[ae fC,AO (by have:=hd.1;have:=hd.2;omega)];by_cases hm:d.method.length+d.iD.length<=500
   ·rw[ae fC];obtain⟨x,e2,x1,x2,x3⟩:=AiD (N:=1099511627776) (λa h=>wf_u8 (hl.2 a h)) fy;rw[e2,aa];change grd (AL 2) (CX 1099511627776 _ _ [d,x.2])=_;rw[BS fy,ACZ r ⟨fy,λf hf=>by have:=k2 f hf;omega⟩ fy fy fy];intro z hz;rcases aL.1 hz with rfl|hz;·omega
    ·rcases bv.1 hz with rfl;omega
   ·rw[ah fC]
  ·rw[ah fC,ah rfl]
end Go.VM
