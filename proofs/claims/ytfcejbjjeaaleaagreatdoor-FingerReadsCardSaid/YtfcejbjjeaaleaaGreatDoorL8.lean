import Derived.Test.YtfcejbjjeaaleaaGreatDoorL7
set_option linter.defProp false
set_option linter.unusedVariables false
set_option linter.unusedSimpArgs false
namespace Go.VM
section
variable{N:Nat}{l:B8}
def Y4:ApiMedia:=⟨[],[],[]⟩
def okM (n:Nat) (m:ApiMedia):Prop:=(47:UInt8)∉m.type_/\m.params.length<=n/\(∀f,f∈m.params->f.value.length<=n)/\m.type_.length<=n/\m.sub.length<=n
def MB (l:B8) (P:Option (ApiMedia×Int)) (R:Option (ApiMedia×Bool)):Prop:=(∃m,P=some (m,0)/\R=some (m,true)/\okM l.length m)\/(P=some (Y4,200)/\R=some (Y4,false))
def pm1 (hb:l.length<=10000000) (hN:l.length+10<N){i:Nat} (hi:i<=l.length):I1 N ⟨l,i⟩=some ((twT l i).map CX,!(twT l i==[]),⟨l,((i+(twT l i).length:Nat):Int)⟩):=by have hw:=WB hi;unfold I1;rw[ANE hb fG hi,aa];dsimp only;rw[lower_eq _ fG,aa]
def Asi{i:Nat}{n:Int} (h:atI l i n=false):l.length<=i\/∃c t,l.drop i=c::t/\(AC c !=n)=true:=by unfold atI at h;cases hd:l.drop i with |nil=>exact .inl (JB hd)|cons c t=>rw[hd]at h;have h':(AC c==n)=false:=h;exact .inr ⟨c,t,rfl,by simp only[bne];rw[h'];rfl⟩
def Apu{i:Nat}{n:Int} (h:atI l i n=true): ∃c t,l.drop i=c::t/\(AC c !=n)=false:=by unfold atI at h;cases hd:l.drop i with |nil=>rw[hd]at h;cases h|cons c t=>rw[hd]at h;have h':(AC c==n)=true:=h;exact⟨c,t,rfl,by simp only[bne];rw[h'];rfl⟩
def Ao1{β:Type}{i:Nat} (hi:i<=l.length) (n:Int) (F E:Option β):(if(((i:Nat):Int)==(l.length:Int))=true then(if true=true then F else E)else (idx l (i:Int)).bind λx=>if(AC x !=n)=true then F else E)=if atI l i n=true then E else F:=by
 cases h:atI l i n
 ·rcases Asi h with h'|⟨c,t,h1,h2⟩;·rw[ah fJ];rfl
  ·have:=KW h1;rw[ae fJ,head_drop h1,aa,h2];rfl
 ·obtain⟨c,t,h1,h2⟩:=Apu h;have:=KW h1;rw[ae fJ,head_drop h1,aa,h2];rfl
def AsZ (hb:l.length<=10000000) (hN:l.length+10<N){y3 y11:B8×Bool×GrammarCursor} (h47:(47:UInt8)∉y3.1) (hy3:y3.1.length<=l.length) (hy11:y11.1.length<=l.length): ∀(n i k k':Nat) (ps:List ApiField),l.length-i<n->i<=l.length->l.length-i+1<k->l.length-i<k'->ps.length<=i->(∀f,f∈ps->f.value.length<=l.length)->MB l (Cn N y3 y11 (λ_=>some (Y4,200)) k true ps ⟨l,(i:Int)⟩) (IK N l y3.1 y11.1 k' (i:Int) ps):=by
 intro n;induction n with
 |zero=>intro i k k' ps h;omega
 | succ n ih=>
  intro i k k' ps hn hi hk hk' hp hv;obtain⟨k,rfl⟩: ∃m,k=m+1+1:=⟨k-2,fG⟩;obtain⟨k',rfl⟩: ∃m,k'=m+1:=⟨k'-1,fG⟩;have hs:=Wy hi;have hs0:i<=skA l i:=by unfold skA;omega
  rw[Cn,ah rfl,Ma hb fG hi,aa,IK,Uy hb fG hi,aa];generalize skA l i=i1 at *;unfold Ad;rw[aa];dsimp only[AA];have dead: ∀(i3:Nat) (nm:B8) (X:B8×Bool×GrammarCursor->Option (ApiMedia×Int)),i3<=l.length->((En N ⟨l,(i3:Int)⟩).bind λy38=>if false=true then X y38 else grd (BR (ps.length+1) 32) (Cn N y3 y11 (λ_=>some (Y4,200)) (k+1) false (ps++[⟨nm,y38.1⟩]) y38.2.2))=some (Y4,200):=by
   intro i3 nm X h3;rcases ABe (N:=N) hb hN h3 with⟨out,j,_,_,_,h4,_⟩|⟨o,j,_,_,_,h4,_⟩;·rw[h4,aa,ae fI,AJ (by unfold BR;omega),Cn,ae fI]
   ·rw[h4,aa,ae fI,AJ (by unfold BR;omega),Cn,ae fI]
  cases hd:l.drop i1 with
  | nil=>
   have:=JB hd;have q1:decide ((i1:Int)>=(l.length:Int))=true:=by simp;omega
   have q2:(((i1:Nat):Int)==(l.length:Int))=true:=by simp;omega
   rw[ah q1,ah q2];exact .inl ⟨_,rfl,rfl,h47,by simp only;omega,hv,hy3,hy11⟩
  | cons c t=>
   have hlt:=KW hd;have q1: ¬decide ((i1:Int)>=(l.length:Int))=true:=by simp;omega
   have q2: ¬(((i1:Nat):Int)==(l.length:Int))=true:=by simp;omega
   rw[ae q1,ae q2,head_drop hd,aa,Qr hb hs,aa];have ea:atI l i1 59=(AC c==59):=by unfold atI;rw[hd]
   rw[ea];cases h59:(AC c==59);·rw[show(AC c !=59)=true by simp only[bne];rw[h59];rfl,ah rfl];have h2:=Wy (l:=l) (i:=i1) hs;dsimp only[Bool.toNat_false,Nat.add_zero];rw[Ma hb fG hs,aa,pm1 hb hN h2,aa,ae fI];dsimp only;exact .inr ⟨dead _ _ _ (WB h2),rfl⟩
   ·rw [show(AC c !=59)=false by simp only[bne];rw[h59];rfl,ae fI,Px hb hs];dsimp only[Bool.toNat_true];have h2:=Wy (l:=l) (i:=i1+1) fG;have h20:i1+1<=skA l (i1+1):=by unfold skA;omega
    rw[Ma hb fG fG,aa,Uy hb fG fG,aa];generalize skA l (i1+1)=i2 at *;have h3:=WB h2;rw[pm1 hb hN h2,aa,ah rfl,Xv hb fG h2,aa];dsimp only;by_cases ht:twT l i2=[];·rw[ah ht,show(!(twT l i2==[]))=false by simpa using ht,ae fI];dsimp only;rw[ae fI];exact .inr ⟨dead _ _ _ h3,rfl⟩
    ·rw [ae ht,show(!(twT l i2==[]))=true by simpa using ht,ah rfl];dsimp only;rw[ah rfl,Ao1 h3 61,Qr hb h3,aa];cases h61:atI l (i2+(twT l i2).length) 61;·rw[ae fI];exact .inr ⟨dead _ _ _ h3,rfl⟩
     ·have h4:=AUL h61;rw[ah rfl];dsimp only[Bool.toNat_true];rw[Px hb h3];rcases ABe (N:=N) hb hN (i:=i2+(twT l i2).length+1) (by omega)with⟨out,j,a1,a2,a3,a4,a5⟩|⟨o,j,a1,a2,a3,a4,a5⟩
      ·rw[a4,aa,a5,aa,ah rfl,ah rfl,Nt _ fG,aa,AJ (by unfold BR;omega),AJ (by unfold BR;omega)];exact ih j (k+1) k' _ fG a2 fG fG fJ (λf hf=>by
        rcases aY.1 hf with hf|hf;·exact hv f hf
        ·rcases bm.1 hf with rfl;exact a3)
      ·rw[a4,aa,a5,aa,ah rfl];dsimp only;rw[ae (show¬(false=true) by decide),AJ (by unfold BR;omega),Cn,ae fI];exact .inr ⟨rfl,rfl⟩
def Aox (c:UInt8):(CX c=47->c=47)/\(AIN c=true->c≠47):=by
 have:=BJ (f:=λn=>(!decide (AEa n=47)||decide (n=47))&&(!AnO n||decide (n≠47))) (g:=λ_=>true) (by kernel_rfl) c;simp only[az,bM,cD,au,eY]at this;obtain⟨h1,h2⟩:=this;refine⟨λh=>?_,λh e=>?_⟩
 ·have e:AEa c.toNat=47\/True:=.inr trivial;have h9:(CX c).toNat=47:=by rw[h];rfl
  unfold CX at h9;have hlt:AEa c.toNat<256:=by have:=c.toNat_lt;unfold AEa;split<;>omega
  rw[dT,bo hlt]at h9;rcases h1 with h1|h1;·exact absurd h9 h1
  ·exact cn.1 h1
 ·subst e;rcases h2 with h2|h2;·unfold AIN at h;rw[h]at h2;cases h2
  ·exact h2 rfl
def Atp (l:B8) (i:Nat):(47:UInt8)∉(twT l i).map CX:=by
 intro h;obtain⟨c,hc,e⟩:=bz.1 h;have h1:=(Aox c).1 e;have:AIN c=true:=by have:=aS.1 (List.all_takeWhile (p:=AIN) (l:=l.drop i)) c hc;exact this
 exact(Aox c).2 this h1
def AUh (hb:l.length<=10000000) (hN:l.length+10<N): ∃m e,Ng N l=some (m,e)/\PI N l=some (m,e)/\okM l.length m:=by
 have key:MB l (Ng N l) (Pj N l):=by
  unfold Ng Pj;have h0:=Wy (l:=l) (i:=0) fG;rw[show(0:Int)=((0:Nat):Int)from rfl,Ma hb fG fG,aa,Uy hb fG fG,aa];generalize skA l 0=i0 at *;have h1:=WB h0;have h47:=Atp l i0;rw[pm1 hb hN h0,aa,Xv hb fG h0,aa];dsimp only[AA];have dead: ∀i3:Nat,i3<=l.length->∀X:B8×Bool×GrammarCursor->Option (ApiMedia×Int),((I1 N ⟨l,(i3:Int)⟩).bind λy11=>if false=true then X y11 else Cn N ((twT l i0).map CX,!(twT l i0==[]),⟨l,((i0+(twT l i0).length:Nat):Int)⟩) y11 (λ_=>some (Y4,200)) N false [] y11.2.2)=some (Y4,200):=by intro i3 h3 X;rw[pm1 hb hN h3,aa,ae fI];obtain⟨M,rfl⟩: ∃M,N=M+1:=⟨N-1,fG⟩;rw[Cn,ae fI]
  by_cases ht:twT l i0=[];·rw[ah ht,show(!(twT l i0==[]))=false by simpa using ht,ae fI];dsimp only;rw[ae fI];rw[show(!(twT l i0==[]))=false by simpa using ht]at dead;exact .inr ⟨dead _ h1 _,rfl⟩
  ·rw [ae ht,show(!(twT l i0==[]))=true by simpa using ht,ah rfl];rw[show(!(twT l i0==[]))=true by simpa using ht]at dead;dsimp only;rw[ah rfl,Ao1 h1 47,Qr hb h1,aa];generalize hi1:i0+(twT l i0).length=i1 at *;cases h47a:atI l i1 47;·rw[ae fI];exact .inr ⟨dead _ h1 _,rfl⟩
   ·have h4:=AUL h47a;rw[ah rfl];dsimp only[Bool.toNat_true];have h5:=WB (l:=l) (i:=i1+1) fG;rw[Px hb h1,pm1 hb hN fG,aa,ah rfl,Xv hb fG fG,aa];by_cases ht2:twT l (i1+1)=[];·rw[ah ht2];dsimp only;rw[show(!(twT l (i1+1)==[]))=false by simpa using ht2,ae fI];obtain⟨M,rfl⟩: ∃M,N=M+1:=⟨N-1,fG⟩;rw[Cn,ae fI];exact .inr ⟨rfl,rfl⟩
    ·rw[ae ht2];dsimp only;have h6:=WB (l:=l) (i:=i0) h0;rw[show(!(twT l (i1+1)==[]))=true by simpa using ht2,ah rfl,Nt _ fG,aa,Nt _ fG,aa];exact AsZ hb hN (y3:=((twT l i0).map CX,true,⟨l,((i1:Nat):Int)⟩)) (y11:=((twT l (i1+1)).map CX,true,⟨l,((i1+1+(twT l (i1+1)).length:Nat):Int)⟩)) h47 (by simp only[co];omega) (by simp only[co];omega) (l.length+1) _ N N [] fG h5 fG fG fH fH
 unfold PI;rcases key with⟨m,h1,h2,h3⟩|⟨h1,h2⟩;·exact⟨m,0,h1,by rw[h2];rfl,h3⟩
 ·exact⟨Y4,200,h1,by rw[h2];rfl,by simp[Y4],by simp[Y4],by simp[Y4],by simp[Y4],by simp[Y4]⟩
def ABz (ps:List ApiField):Bool:=ps.all λf=>!(f.name==([99,104,97,114,115,101,116]:B8))||f.value.map CX==([117,116,102,45,56]:B8)
def Ar0 (k:Unit->Option Bool): ∀ps:List ApiField,(∀f,f∈ps->f.value.length<=10000000)->I7 N k ps=if ABz ps=true then k ()else some false
 |[],_=>rfl
 | f::ps,h=>by
  have hi:=Ar0 k ps λg hg=>h g (.tail _ hg);have h1:=h f (.head _);rw[I7];dsimp only[AA];rw[show ABz (f::ps)=((!(f.name==([99,104,97,114,115,101,116]:B8))||f.value.map CX==([117,116,102,45,56]:B8))&&ABz ps)from rfl,SA _ _ fG fI,aa,hi];cases f.name==([99,104,97,114,115,101,116]:B8);·simp
  ·rw[ah rfl,show List.map CX ([117,116,102,45,56]:B8)=[117,116,102,45,56]from by decide];cases f.value.map CX==([117,116,102,45,56]:B8)<;>simp
def AsI (k:Unit->Option Bool): ∀ps:List ApiField,(∀f,f∈ps->f.value.length<=10000000)->IE N k ps=if ABz ps=true then k ()else some false
 |[],_=>rfl
 | f::ps,h=>by
  have hi:=AsI k ps λg hg=>h g (.tail _ hg);have h1:=h f (.head _);rw[IE];dsimp only[AA];rw[show ABz (f::ps)=((!(f.name==([99,104,97,114,115,101,116]:B8))||f.value.map CX==([117,116,102,45,56]:B8))&&ABz ps)from rfl,SH _ _ fG fI,aa,hi];cases f.name==([99,104,97,114,115,101,116]:B8);·simp
  ·rw[ah rfl,show List.map CX ([117,116,102,45,56]:B8)=[117,116,102,45,56]from by decide];cases f.value.map CX==([117,116,102,45,56]:B8)<;>simp
def AmP{m:ApiMedia} (h:okM 10000000 m):Qs N m=some (ABz m.params):=by unfold Qs;rw[AA,BV (by have:=h.2.1;omega),Ar0 _ _ h.2.2.1];cases ABz m.params<;>rfl
def Akr{m:ApiMedia} (h:okM 10000000 m):Nn N m=some (ABz m.params):=by unfold Nn;rw[AA,BV (by have:=h.2.1;omega),AsI _ _ h.2.2.1];cases ABz m.params<;>rfl
def Aoy: ∀ {a b c d:B8},(47:UInt8)∉a->(47:UInt8)∉c->((a++[47])++b==(c++[47])++d)=(a==c&&b==d)
 |[],b,[],d,_,_=>by simp[dP]
 | [],b,x::c,d,_,h=>by
  rw[dP];simp only[aT,bf,bE,ce,az];constructor;·rintro⟨rfl,_⟩;simp at h
  ·rintro⟨h,_⟩;cases h
 | y::a,b,[],d,h,_=>by
  rw[dP];simp only[aT,bf,bE,ce,az];constructor;·rintro⟨rfl,_⟩;simp at h
  ·rintro⟨h,_⟩;cases h
 | y::a,b,x::c,d,h1,h2=>by have:=Aoy (a:=a) (b:=b) (c:=c) (d:=d) (λh=>h1 (.tail _ h)) (λh=>h2 (.tail _ h));rw[dP]at this⊢;simp only[bf,bE,ce,az]at this⊢;rw[this];simp[and_assoc]
def AV0 (m:ApiMedia) (t:B8) (subs:List B8):Bool:=m.type_==t&&subs.contains m.sub&&ABz m.params
def Arx{m:ApiMedia} (h:okM 10000000 m){t:B8} (ht:(47:UInt8)∉t): ∀subs:List B8,Ik N m (λ_=>some false) (subs.map λs=>(t++[47])++s)=some (AV0 m t subs) |[]=>by rw[bU,Ik];simp[AV0]| s::subs=>by have hl:=h.2.2.2;rw[aE,Ik,BV fJ,BV fJ,AmP h,aa,Arx h ht subs,Aoy h.1 ht];unfold AV0;rw[bh];cases m.type_==t<;>cases m.sub==s<;>simp
def ARk:B8:=[97,112,112,108,105,99,97,116,105,111,110]
end
end Go.VM
namespace Go.VM
section
variable{N:Nat}{l:B8}
def AsS:Int:=18446744073709551615
def Za (s:B8):Int×Bool:=if((AM9 18446744073709551615 s).2==4)=true then(AsS,true)else((AM9 18446744073709551615 s).1,(AM9 18446744073709551615 s).2==0)
def Ase (s:B8) (hb:s.length<=10000000):LW N s=some (Za s):=by unfold LW Za;rw[show(18446744073709551615:Int)=((18446744073709551615:Nat):Int)from rfl,ZU fI s fG];change (if((AM9 18446744073709551615 s).2==4)=true then _ else _)=_;split<;>rfl
def AsJ (s:B8) (hb:s.length<=10000000):LX N s=some (Za s):=by unfold LX Re Za;rw[show(18446744073709551615:Int)=((18446744073709551615:Nat):Int)from rfl,ARe fI fI s fG];change (if((AM9 18446744073709551615 s).2==4)=true then _ else _)=_;split<;>rfl
def AO6 (s:B8):0<=(Za s).1/\(Za s).1<=18446744073709551615:=by
 unfold Za AsS AM9;by_cases h1:s=[];·simp[h1]
 ·by_cases h2:s.all DC=true
  ·by_cases h3:JR 0 s<=18446744073709551615;·rw[ae h1,ah h2,ah h3];dsimp only;rw[ae fI];dsimp only;omega
   ·rw[ae h1,ah h2,ae h3];dsimp only;rw[ah fI];dsimp only;omega
  ·rw[ae h1,ae h2];dsimp only;rw[ae fI];dsimp only;omega
def DB (l:B8) (P R:Option (List ApiField×Bool)):Prop:= ∃fs b,P=some (fs,b)/\R=some (fs,b)/\fs.length<=l.length/\ ∀f,f∈fs->f.value.length<=l.length
def AsX (hb:l.length<=10000000) (hN:l.length+10<N): ∀(n i k k':Nat) (fs:List ApiField),l.length-i<n->i<=l.length->l.length-i<k->l.length-i<k'->fs.length<=i->(∀f,f∈fs->f.value.length<=l.length)->DB l (Bq N k fs l (i:Int)) (Dc N l k' fs (i:Int)):=by
 intro n;induction n with
 |zero=>intro i k k' fs h;omega
 | succ n ih=>
  intro i k k' fs hn hi hk hk' hp hv;obtain⟨k,rfl⟩: ∃m,k=m+1:=⟨k-1,fG⟩;obtain⟨k',rfl⟩: ∃m,k'=m+1:=⟨k'-1,fG⟩;have hf:BR (fs.length+1) 32:=by unfold BR;omega
  have bad:DB l (some ([],false)) (some ([],false)):=⟨[],false,rfl,rfl,fH,fH⟩;have hs:=Wy hi;have hs0:i<=skA l i:=by unfold skA;omega
  rw[Bq,Ma hb fG hi,aa,Dc];unfold Ad;dsimp only[AA];rw[aa,Uy hb fG hi,aa];generalize skA l i=i1 at *;dsimp only;cases hd:l.drop i1 with
  | nil=>
   have:=JB hd;have q1:decide ((i1:Int)>=(l.length:Int))=true:=by simp;omega
   have q2: ¬decide ((i1:Int)<(l.length:Int))=true:=by simp;omega
   have q3:(((i1:Nat):Int)==(l.length:Int))=true:=by simp;omega
   rw[ah q1,ae q2,ae (show¬(false=true) by decide),ah q3];exact⟨fs,true,rfl,rfl,fG,hv⟩
  | cons c t=>
   have hlt:=KW hd;have q1: ¬decide ((i1:Int)>=(l.length:Int))=true:=by simp;omega
   have q2:decide ((i1:Int)<(l.length:Int))=true:=by simp;omega
   rw[ae q1,ah q2,head_drop hd,aa,Qr hb hs,aa];have ea:atI l i1 44=(AC c==44):=by unfold atI;rw[hd]
   rw[ea];cases h44:(AC c==44)
   ·have e44:(AC c !=44)=true:=by simp only[bne];rw[h44];rfl
    rw[e44];simp only[av,aq,aj,aU,aL,bH,bZ,bB,aa];have h3:=WB hs;rw[ANE hb fG hs,aa];try dsimp only
    rw[lower_eq _ fG,aa,Xv hb fG hs,aa];have tail: ∀(j:Nat) (v:B8),i1<j->j<=l.length->v.length<=l.length->DB l ((Ce N ⟨l,(j:Int)⟩).bind λy24=>(some (decide (y24.at_>=(y24.s.length:Int)),y24)).bind λy30=>if y30.1=true then grd (BR (fs.length+1) 32) (Bq N k (fs++[⟨(twT l i1).map CX,v⟩]) y30.2.s y30.2.at_)else (Bp N y30.2 44).bind λy32=>if(!y32.1)=true then some ([],false)else grd (BR (fs.length+1) 32) (Bq N k (fs++[⟨(twT l i1).map CX,v⟩]) y32.2.s y32.2.at_)) (grd (BR (fs.length+1) 32) ((J6 N l (j:Int)).bind λy28=>if(y28==(l.length:Int))=true then some (fs++[⟨(twT l i1).map CX,v⟩],true)else (idx l y28).bind λx30=>if(AC x30 !=44)=true then some ([],false)else Dc N l k' (fs++[⟨(twT l i1).map CX,v⟩]) (wr .i64 (y28+1)))):=by
     intro j v hj hjl hvl;have hv': ∀f,f∈fs++[(⟨(twT l i1).map CX,v⟩:ApiField)]->f.value.length<=l.length:=λf hf=>by
      rcases aY.1 hf with hf|hf;·exact hv f hf
      ·rcases bm.1 hf with rfl;exact hvl
     have hs2:=Wy hjl;have hs20:j<=skA l j:=by unfold skA;omega
     simp only[AJ hf];rw[Ma hb fG hjl,aa,aa,Uy hb fG hjl,aa];generalize skA l j=i2 at *;dsimp only;cases hd2:l.drop i2 with
     | nil=>
      have:=JB hd2;have q4:decide ((i2:Int)>=(l.length:Int))=true:=by simp;omega
      have q5:(((i2:Nat):Int)==(l.length:Int))=true:=by simp;omega
      rw[ah q4,ah q5];obtain⟨k,rfl⟩: ∃m,k=m+1:=⟨k-1,fG⟩;have e9:skA l i2=i2:=by unfold skA;rw[hd2];rfl
      rw[Bq,Ma hb fG hs2,e9,aa];unfold Ad;rw[aa];dsimp only;rw[ah q4];exact⟨_,_,rfl,rfl,fJ,hv'⟩
     | cons d t2=>
      have hlt2:=KW hd2;have q4: ¬decide ((i2:Int)>=(l.length:Int))=true:=by simp;omega
      have q5: ¬(((i2:Nat):Int)==(l.length:Int))=true:=by simp;omega
      have eb:atI l i2 44=(AC d==44):=by unfold atI;rw[hd2]
      rw[ae q4,ae q5,head_drop hd2,aa,Qr hb hs2,aa,eb];cases h45:(AC d==44);·rw[show(AC d !=44)=true by simp only[bne];rw[h45];rfl];simp only[av,aq,aj,aU,aL,bH,bZ,bB,aa];exact bad
      ·rw[show(AC d !=44)=false by simp only[bne];rw[h45];rfl];simp only[av,aq,aj,aU,aL,bH,bZ,bB,aa];rw[Px hb hs2];exact ih (i2+1) k k' _ fG fG fG fG fJ hv'
    try unfold Ad at tail
    simp only[av,aq,aj,aU,aL,bH,bZ,bB,aa]at tail;by_cases ht:twT l i1=[];·rw[ah ht,show(!(twT l i1==[]))=false by simpa using ht];simp only[av,aq,aj,aU,aL,bH,bZ,bB,aa];rw[Ma hb fG h3,aa];exact bad
    ·rw [ae ht,show(!(twT l i1==[]))=true by simpa using ht];have hpos:0<(twT l i1).length:=bD.2 ht;simp only[av,aq,aj,aU,aL,bH,bZ,bB,aa];rw[Nt _ fG,aa,Qr hb h3,aa];dsimp only;generalize hi3:i1+(twT l i1).length=i3 at *;have e61: ∀(A B:Option (List ApiField×Bool)),(if(decide ((i3:Int)<(l.length:Int)))=true then (idx l (i3:Int)).bind λx25=>if(AC x25==61)=true then A else B else B)=if atI l i3 61=true then A else B:=by intro A B;unfold atI;cases hd3:l.drop i3 with | nil=>have:=JB hd3;rw[ae fJ];rfl| cons e t3=>have:=KW hd3;rw[ah fJ,head_drop hd3,aa]
     rw[e61];cases h61:atI l i3 61;·simp only[av,aq,aj,aU,aL,bH,bZ,bB,aa];exact tail i3 [] fG h3 fH
     ·have h4:=AUL h61;simp only[av,aq,aj,aU,aL,bH,bZ,bB,aa];rw[Px hb h3];rcases ABe (N:=N) hb hN (i:=i3+1) (by omega)with⟨out,j,a1,a2,a3,a4,a5⟩|⟨o,j,a1,a2,a3,a4,a5⟩;·rw[a4,a5];simp only[av,aq,aj,aU,aL,bH,bZ,bB,aa];exact tail j out fG a2 a3
      ·rw[a4,a5];simp only[av,aq,aj,aU,aL,bH,bZ,bB,aa];rw[Ma hb fG a2,aa];exact bad
   ·rw[show(AC c !=44)=false by simp only[bne];rw[h44];rfl,ah rfl,ae (show¬(false=true) by decide)];have q3: ¬(((i1:Nat):Int)==(l.length:Int))=true:=by simp;omega
    rw[ae q3,aa,show(AC c !=44)=false by simp only[bne];rw[h44];rfl,ae (show¬(false=true) by decide),Px hb hs];dsimp only[Bool.toNat_true];exact ih (i1+1) k k' fs fG fG fG fG fG hv
def AfY (hb:l.length<=10000000) (hN:l.length+10<N):DB l (KL N l) (KQ N l):=by unfold KL KQ;exact AsX hb hN (l.length+1) 0 N N [] fG fG fG fG fH fH
def ccB:B8:=[99,97,99,104,101,45,99,111,110,116,114,111,108]
def API:B8:=[97,103,101]
def Aey (f:ApiField):Bool:=f.name==([110,111,45,115,116,111,114,101]:B8)||f.name==([110,111,45,99,97,99,104,101]:B8)
def Rq:List ApiField->Int->Bool->Option (Int×Bool) |[],s,b=>some (s,b)|f::xs,s,b=>if Aey f=true then none else if f.name==([109,97,120,45,97,103,101]:B8)then(if(Za f.value).2=true then Rq xs (if(Za f.value).1<s then(Za f.value).1 else s) true else none)else Rq xs s b
def Af3 (k:Int×Bool->Option (Int×Bool)): ∀(xs:List ApiField) (s:Int) (b:Bool),(∀f,f∈xs->f.value.length<=10000000)->IG N k xs s b=match Rq xs s b with|none=>some (0,false)|some r=>k r
 |[],s,b,_=>rfl
 | f::xs,s,b,h=>by
  have ih:=λs b=>Af3 k xs s b λg hg=>h g (.tail _ hg);rw[IG,Rq,Ase _ (h f (.head _))];unfold Aey;dsimp only[AA];simp only[aa,ih];cases f.name==([110,111,45,115,116,111,114,101]:B8)
  ·cases f.name==([110,111,45,99,97,99,104,101]:B8)
   ·cases f.name==([109,97,120,45,97,103,101]:B8);·simp
    ·cases (Za f.value).2<;>simp
   ·simp
  ·simp
def AfC (k:Int×Bool->Option ApiFresh): ∀(xs:List ApiField) (s:Int) (b:Bool),(∀f,f∈xs->f.value.length<=10000000)->Kg N k xs s b=match Rq xs s b with|none=>some ⟨false,0⟩|some r=>k r
 |[],s,b,_=>rfl
 | f::xs,s,b,h=>by
  have ih:=λs b=>AfC k xs s b λg hg=>h g (.tail _ hg);rw[Kg,Rq,AsJ _ (h f (.head _))];unfold Aey;dsimp only[AA];simp only[aa,ih];cases f.name==([110,111,45,115,116,111,114,101]:B8)
  ·cases f.name==([110,111,45,99,97,99,104,101]:B8)
   ·cases f.name==([109,97,120,45,97,103,101]:B8);·simp
    ·cases (Za f.value).2<;>simp
   ·simp
  ·simp
def Wx: ∀(xs:List ApiField) (s:Int) (b:Bool) (r:Int×Bool),0<=s->s<=18446744073709551615->Rq xs s b=some r->0<=r.1/\r.1<=18446744073709551615
 |[],s,b,r,h0,h1,h=>by rw[Rq]at h;cases h;exact⟨h0,h1⟩
 | f::xs,s,b,r,h0,h1,h=>by
  have hr:=AO6 f.value;rw[Rq]at h;split at h;·cases h
  ·split at h
   ·split at h;·refine Wx xs _ _ r ?_ ?_ h<;>split<;>omega
    ·cases h
   ·exact Wx xs _ _ r h0 h1 h
def Alu (a b:Int):Int:=if b>a then 0 else a-b
def Afn{a b:Int} (ha:0<=a/\a<=18446744073709551615) (hb:0<=b/\b<=18446744073709551615):Q3 N a b=some (Alu a b):=by
 unfold Q3 Alu;by_cases h:b>a
 ·have e:wr .u64 (a-b)=a-b+18446744073709551616:=by simp[wr,IntKind.wrap,IntKind.bits,IntKind.signed];omega
  rw[e,ah h];by_cases h2:a-b+18446744073709551616>a;·rw[ah (aA h2)]
  ·omega
 ·rw[IC fG,ae h,ae fJ]
def AsA{a b:Int} (ha:0<=a/\a<=18446744073709551615) (hb:0<=b/\b<=18446744073709551615):R8 N a b=some (Alu a b):=by
 unfold R8 Alu;by_cases h:b>a;·rw[ah (aA h),ah h]
 ·rw[ae (by simpa using h),ae h,IC fG]
def AlM{h:ApiHead} (hh:hdB h) (hN:3000000<=N): ∃r,UX N h=some r/\Tw N h=some r:=by
 have hg:=ACE hh ccB;have ha:=ACE hh API;obtain⟨fs,b,e1,e2,e3,e4⟩:=AfY (N:=N) (l:=(Ws h ccB).1) fG fG;have hv: ∀f,f∈fs->f.value.length<=10000000:=λf hf=>by have:=e4 f hf;omega
 unfold UX Tw RQ;rw[show([99,97,99,104,101,45,99,111,110,116,114,111,108]:B8)=ccB from rfl,show([97,103,101]:B8)=API from rfl,AMK hh ccB fI,Tz hh ccB fI,AMK hh API fI,Tz hh API fI];simp only[aa,AA];rw[e1,e2,Ase _ fG,AsJ _ fG];simp only[aa];have hf:AL fs.length:=by unfold AL;omega
 simp only[AJ hf,Af3 _ _ _ _ hv,AfC _ _ _ _ hv];have hr:=Wx fs 18446744073709551615 false;have hs:=AO6 (Ws h API).1;cases hl:Rq fs 18446744073709551615 false with
 | none=>
  simp only[aa];have z:(0:Int)<=0/\(0:Int)<=18446744073709551615:=fI;refine⟨⟨false,0⟩,?_,?_⟩
  ·cases (Ws h API).2;·rw[Afn z z];simp
   ·cases b;·rw[Afn z hs];simp
    ·rw[Afn z hs];simp
  ·cases (Ws h ccB).2<;>cases b<;>simp
 | some q=>
  obtain⟨q1,q2⟩:=hr q fI fI hl;have z:(0:Int)<=0/\(0:Int)<=18446744073709551615:=fI;simp only[aa];cases (Ws h API).2;·simp only[aj,aq,Afn ⟨q1,q2⟩ z,AsA ⟨q1,q2⟩ z,aa];cases (Ws h ccB).2<;>cases b<;>cases q.2<;>first| (simp;done)| (simp only[av,aq,aj,aU,aL];split<;>first| exact⟨_,rfl,rfl⟩| (split<;>exact⟨_,rfl,rfl⟩))
  ·simp only[av,Afn ⟨q1,q2⟩ hs,AsA ⟨q1,q2⟩ hs,aa];cases (Ws h ccB).2<;>cases b<;>cases (Za (Ws h API).1).2<;>cases q.2<;>first| (simp;done)| (simp only[av,aq,aj,aU,aL];split<;>first| exact⟨_,rfl,rfl⟩| (split<;>exact⟨_,rfl,rfl⟩))
end
end Go.VM
namespace Go.VM
section
variable{N:Nat}
def GG:Nat->B8->Option (List (Bool×UInt8)) |0,_=>none|_+1,[]=>some []|k+1,c::t=>if c=37 then(match NU t with|some x=>(GG k (t.drop 2)).map ((true,x):: ·)|none=>none)else(GG k t).map ((false,c):: ·)
def AHm: ∀(k k':Nat) (t:B8),t.length<k->t.length<k'->GG k t=GG k' t
 |0,_,_,h,_=>by omega
 |_,0,_,_,h=>by omega
 |k+1,k'+1,[],_,_=>rfl
 | k+1,k'+1,c::t,h,h'=>by
  simp only[ag]at h h';rw[GG,GG];split;·cases he:NU t with |none=>rfl|some x=>simp only;rw[AHm k k' (t.drop 2) (by grind) (by grind)]
  ·rw[AHm k k' t fG fG]
def unS (t:B8):Option (List (Bool×UInt8)):=GG (t.length+1) t
def AWi{k:Nat}{t:B8} (h:t.length<k):GG k t=unS t:=AHm k _ t h (eZ _)
theorem ZW: ∀(k:Nat) (t out:B8),t.length<k->UO k t out=(match GG k t with|some us=>(out++us.map (·.2),0)|none=>([],2))
 |0,_,_,h=>by omega
 |k+1,[],out,_=>by simp[UO,GG]
 | k+1,c::t,out,h=>by
  simp only[ag]at h;rw[UO,GG];split;·cases he:NU t with |none=>rfl| some x=>simp only;rw[ZW k (t.drop 2) (out++[x]) (by grind)];cases GG k (t.drop 2)<;>simp
  ·rw[ZW k t (out++[c]) fG];cases GG k t<;>simp
def nuC (u:Bool×UInt8):B8:=if u.1=true then(if FI u.2=true then [u.2]else NH u.2)else [u.2]
def okN (also:B8) (u:Bool×UInt8):Bool:=u.1||(FI u.2||also.contains u.2)
def AIO (also:B8): ∀(k:Nat) (t out:B8) (us:List (Bool×UInt8)),t.length<k->GG k t=some us->UQ also k t out=if us.all (okN also)=true then(out++us.flatMap nuC,0)else([],1)
 |0,_,_,_,h,_=>by omega
 | k+1,[],out,us,_,hu=>by grind[GG,UQ]
 | k+1,c::t,out,us,h,hu=>by
  simp only[ag]at h;rw[GG]at hu;rw[UQ];split at hu;·rename_i hc;rw[ah hc];cases he:NU t with |none=>grind| some x=>rw[he]at hu;simp only[br]at hu;obtain⟨vs,hv,rfl⟩:=hu;simp only;rw[AIO also k (t.drop 2) _ vs (by grind) hv,aK,show okN also (true,x)=true from rfl,bJ,aQ,<-aF];rfl
  ·rename_i hc;rw[ae hc];simp only[br]at hu;obtain⟨vs,hv,rfl⟩:=hu;have ih:=AIO also k t (out++[c]) vs fG hv;cases AR:(FI c||also.contains c);·simp_all[okN]
   ·rw[ah rfl,ih,aK,show okN also (false,c)=true from AR,bJ,aQ,<-aF];rfl
def AoG:KC 58=false:=fI
def Ah8{p r:B8} (h58: ∀x,x∈p->x≠58):NU (p++58::r)=NU p/\(NU p≠none->2<=p.length):=by
 match p with
 | []=>refine⟨?_,λh=>absurd rfl h⟩;cases r with |nil=>rfl|cons y r=>simp[NU,AoG]
 |[a]=>exact⟨by simp[NU,AoG],λh=>absurd rfl h⟩
 |a::b::q=>exact⟨rfl,λ_=>by simp⟩
theorem ADQ: ∀(k:Nat) (p r:B8),(p++58::r).length<k->(∀x,x∈p->x≠58)->GG k (p++58::r)=(unS p).bind λu=>(unS r).map λv=>u++(false,58)::v
 |0,_,_,h,_=>by omega
 | k+1,[],r,h,_=>by simp only[aT,ag]at h;rw[aT,GG,ae fI,AWi fG];have:unS []=some []:=rfl;grind
 | k+1,c::p,r,h,h58=>by
  simp only[bf,ag,an]at h;have hp58: ∀x,x∈p->x≠58:=λx AR=>h58 x (by grind);rw[bf,GG];have hunS:unS (c::p)=if c=37 then(match NU p with|some x=>(GG (p.length+1) (p.drop 2)).map ((true,x):: ·)|none=>none)else(GG (p.length+1) p).map ((false,c):: ·):=rfl;rw[hunS];obtain⟨e1,e2⟩:=Ah8 (r:=r) hp58;split;·rw[e1];cases he:NU p with |none=>rfl| some x=>have h2:2<=p.length:=e2 (by grind);simp only;rw[dj h2,ADQ k (p.drop 2) r (by grind) (λy hy=>hp58 y (dE hy)),AWi (t:=p.drop 2) (by grind)];cases unS (p.drop 2)with |none=>rfl|some u=>cases unS r<;>rfl
  ·rw[ADQ k p r (by grind) hp58,AWi (t:=p) fG];cases unS p with |none=>rfl|some u=>cases unS r<;>rfl
def AMc (x:UInt8) (AR:KC x=false) (h37:x≠37): ∀(k:Nat) (t:B8) (us:List (Bool×UInt8)),GG k t=some us->t.contains x=us.any λu=>!u.1&&u.2==x
 |0,_,_,h=>by cases h
 |k+1,[],us,h=>by grind[GG]
 | k+1,c::t,us,h=>by
  rw[GG]at h;split at h
  ·rename_i hc;match t,h with
   |[],h=>cases h
   |[_],h=>cases h
   | a::b::r,h=>
    simp only[NU]at h;by_cases hh:(KC a&&KC b)=true
    ·rw[ah hh]at h;simp only[br]at h;obtain⟨vs,hv,rfl⟩:=h;have ih:=AMc x AR h37 k r vs hv;rw[az]at hh;have ha:(x==a)=false:=by simp only[cj,dY];rintro rfl;grind
     have hb:(x==b)=false:=by simp only[cj,dY];rintro rfl;grind
     simp_all
    simp_all
  ·simp only[br]at h;obtain⟨vs,hv,rfl⟩:=h;rw[bh,AMc x AR h37 k t vs hv,bK];congr 1;simp only[aL,bJ];grind
def AUC (f:UInt8->Bool) (hf: ∀c,KC c=true->f c=true) (h37:f 37=true): ∀(k:Nat) (t:B8) (us:List (Bool×UInt8)),GG k t=some us->t.all f=us.all λu=>u.1||f u.2
 |0,_,_,h=>by cases h
 |k+1,[],us,h=>by grind[GG]
 | k+1,c::t,us,h=>by
  rw[GG]at h;split at h
  ·rename_i hc;match t,h with
   |[],h=>cases h
   |[_],h=>cases h
   | a::b::r,h=>
    simp only[NU]at h;by_cases hh:(KC a&&KC b)=true;·rw[ah hh]at h;simp only[br]at h;obtain⟨vs,hv,rfl⟩:=h;have ih:=AUC f hf h37 k r vs hv;simp_all
    simp_all
  ·simp only[br]at h;obtain⟨vs,hv,rfl⟩:=h;rw[aK,AUC f hf h37 k t vs hv,aK];simp
end
end Go.VM
namespace Go.VM
section
variable{N:Nat}
def F3 (c:UInt8):Bool:=BS c||(DC c||([46,45,95]:B8).contains c)
def AFD (c:UInt8):Na N (AC c)=some (F3 c):=by unfold Na F3;rw[QI,aa,O1,aa,Po c _ fI,aa];cases BS c<;>cases DC c<;>rfl
def XN (c:UInt8):(FI c=(F3 c||c==126))/\(F3 c=true->c≠37/\c≠58/\c≠126)/\(KC c=true->F3 c=true):=by have key:=BJ (f:=λn=>(FI (UInt8.ofNat n)==(F3 (UInt8.ofNat n)||UInt8.ofNat n==126))&&((!F3 (UInt8.ofNat n))||(decide (UInt8.ofNat n≠37)&&decide (UInt8.ofNat n≠58)&&decide (UInt8.ofNat n≠126)))&&((!KC (UInt8.ofNat n))||F3 (UInt8.ofNat n))) (g:=λ_=>true) (by kernel_rfl) c;simp only[bv,az,bM,cD,bE,au]at key;grind
def JI (b:UInt8):B8:=if F3 b=true then [b]else NH b
theorem OA (b:UInt8):(JI b).length<=3/\1<=(JI b).length:=by unfold JI;split<;>simp[NH]
def AQD:UInt8->B8:=ABB [37,55,69] 126
def Ain (b:UInt8):(NH b).flatMap AQD=NH b:=by have key:=BJ (f:=λn=>decide (([37,Tp (n / 16),Tp (n % 16)]:B8).flatMap AQD=[37,Tp (n / 16),Tp (n % 16)])) (g:=λ_=>true) (by kernel_rfl) b;simp only[au]at key;exact key
theorem AXH (b:UInt8):(if FI b=true then [b]else NH b).flatMap AQD=JI b:=by
 obtain⟨k1,k2,_⟩:=XN b;unfold JI;rw[k1];cases hp:F3 b
 ·by_cases h:b=126;·subst h;rfl
  ·rw[show(b==126)=false by grind,cx,ae fI,Ain]
 ·obtain⟨_,_,h3⟩:=k2 hp;rw[cV,ah rfl];simp[AQD,ABB,h3]
def Af1 (b:UInt8):(MK [] b).flatMap AQD=JI b:=by grind[AXH,MK]
def guC (u:Bool×UInt8):B8:=if u.1=true then JI u.2 else [u.2]
def Vr (u:Bool×UInt8):Bool:=u.1||(F3 u.2||u.2==58)
def Apw{u:Bool×UInt8} (h:Vr u=true):(nuC u).flatMap AQD=guC u:=by
 obtain⟨e,c⟩:=u;unfold nuC guC;cases e
 ·simp only[aj,aq];have hc:c≠126:=by rintro rfl;simp only[Vr,be]at h;exact absurd h fI
  simp[AQD,ABB,hc]
 ·simp only[av];exact AXH c
def AZ3{us:List (Bool×UInt8)} (h:us.all Vr=true):(us.flatMap nuC).flatMap AQD=us.flatMap guC:=by induction us with |nil=>rfl| cons u us ih=>rw[aK,az]at h;rw[aQ,c8,Apw h.1,ih h.2,aQ]
def Q4 (s:B8):B8×Int:=match unS s with |none=>([],2)|some us=>if us.all Vr=true then(us.flatMap guC,0)else([],1)
def AsM (us:List (Bool×UInt8)):(us.all (okN [58])&&!(us.any λu=>!u.1&&u.2==126))=us.all Vr:=by
 induction us with
 |nil=>rfl
 | cons u us ih=>
  rw[aK,bK,aK,<-ih];obtain⟨e,c⟩:=u;obtain⟨k1,k2,_⟩:=XN c;have hu:(okN [58] (e,c)&&!(!e&&c==126))=Vr (e,c):=by
   unfold okN Vr;cases e;·simp only[be,aL,bJ];grind
   ·simp
  rw[<-hu];cases okN [58] (e,c)<;>cases (!e&&c==126)<;>cases us.all (okN [58])<;>cases (us.any λu=>!u.1&&u.2==126)<;>rfl
def Ann (s:B8) (hb:s.length<=16000) (hN:20000<=N): ∃v,Mx N s=some (v,(Q4 s).2)/\((Q4 s).2=0->v=(Q4 s).1):=by
 unfold Mx;have hd:Af N s=UO N s []:=by unfold Af;grind
 have hn:EN N s [58]=UQ [58] N s []:=by unfold EN;grind
 have hun:GG N s=unS s:=AWi fG;rw[Mv _ _ hN,aa,Qn _ hN,aa,hd,hn,ZW N s [] fG,hun];dsimp only[AA];unfold Q4;cases hu:unS s with
 |none=>simp
 | some us=>
  simp only;rw[ae fI,AIO [58] N s [] us fG (by grind),ASm,aa];have h126:s.contains 126=us.any λu=>!u.1&&u.2==126:=AMc 126 fI fI _ s us hu;have hk:=AsM us;rw[<-h126]at hk;have hlen:=L6 (N:=N) s [58];rw[hn,AIO [58] N s [] us fG (by grind)]at hlen;cases h1:us.all (okN [58]);·rw[h1,eL]at hk;rw[<-hk];simp only[aj,aq];rw[ae fI,RI _ _ _ rfl fH,aa];simp
  ·rw[h1,bJ]at hk;rw[h1]at hlen;simp only[av,aT]at hlen⊢;rw[ah fI];cases h2:s.contains 126;·rw[h2]at hk;rw[<-hk];simp only[aL,aj,aq,av];rw[RI _ _ _ rfl fG,aa];exact⟨_,rfl,λ_=>AZ3 hk.symm⟩
   ·rw[h2]at hk;rw[<-hk];simp only[aU,aj,aq,av];rw[RI _ _ _ rfl fG,aa];simp
end
end Go.VM
namespace Go.VM
section
variable{N:Nat}
theorem Aft{p:UInt8->Bool}{x:UInt8}: ∀ {l:B8},x∈l.takeWhile p->p x=true
 |[],h=>by simp at h
 | c::l,h=>by
  rw[aN]at h;split at h
  ·rename_i hc;rcases aI.1 h with rfl|h;·omega
   ·exact Aft h
  grind
def YM (c:UInt8):Bool:=F3 c||c==37
def AVj: ∀(k:Nat) (t:B8) (us:List (Bool×UInt8)),GG k t=some us->∀u,u∈us->u.1=true\/u.2≠37
 |0,_,_,h,_,_=>by cases h
 |k+1,[],us,h,u,hu=>by grind[GG]
 | k+1,c::t,us,h,u,hu=>by
  rw[GG]at h;split at h
  ·cases he:NU t with
   |none=>grind
   | some x=>
    rw[he]at h;simp only[br]at h;obtain⟨vs,hv,rfl⟩:=h;rcases aI.1 hu with rfl|hu;·simp
    ·exact AVj k _ vs hv u hu
  ·rename_i hc;simp only[br]at h;obtain⟨vs,hv,rfl⟩:=h;rcases aI.1 hu with rfl|hu;·grind
   ·exact AVj k t vs hv u hu
theorem Apz: ∀ {t:B8}{us:List (Bool×UInt8)},unS t=some us->(us=[]<->t=[])
 | [],us,h=>by have:unS []=some []:=rfl;grind
 | c::t,us,h=>by
  unfold unS at h;rw[GG]at h;constructor
  ·rintro rfl;split at h;·cases he:NU t with |none=>grind|some x=>simp_all
   simp_all
  simp
theorem V6{p:B8} (hb:p.length<=16000) (hN:20000<=N):Af N p=(match unS p with|some us=>(us.map (·.2),0)|none=>([],2)):=by unfold Af;rw[ae fG,ZW N p [] fG,AWi fG];cases unS p<;>simp
def Ny (N:Nat) (p:B8):B8:=(Af N p).1.flatMap JI
def jn (N:Nat):Bool->List B8->B8 |_,[]=>[]|true,p::ps=>Ny N p++jn N false ps|false,p::ps=>58::(Ny N p++jn N false ps)
def V3 (N:Nat) (p:B8):Bool:=(Af N p).2==0
def ASY{p:B8}{u:List (Bool×UInt8)} (hb:p.length<=16000) (hN:20000<=N) (h58:p.contains 58=false) (hu:unS p=some u):V3 N p=true/\p.all YM=u.all Vr/\(u.all Vr=true->Ny N p=u.flatMap guC):=by
 have hlit:=AVj _ p u hu;have h58':=AMc 58 fI fI _ p u hu;rw[h58]at h58';have hno: ∀v,v∈u->v.1=true\/(v.2≠37/\v.2≠58):=λv hv=>by
  rcases hlit v hv with h|h;·grind
  ·have:=eT.1 h58'.symm v hv;cases hv1:v.1;·refine .inr ⟨h,λe=>?_⟩;rw[hv1,e]at this;exact this rfl
   ·exact .inl rfl
 refine⟨by grind[V3,V6],?_,λhok=>?_⟩;·rw[AUC YM (λc hc=>by unfold YM;rw[(XN c).2.2 hc];rfl) fI _ p u hu];grind[Vr,YM]
 ·unfold Ny;rw[V6 hb hN,hu];clear hu h58' hlit;induction u with
  |nil=>rfl
  | cons v u ih=>
   rw[aK,az]at hok;have ih':=ih (λw hw=>hno w (by grind)) hok.2;simp only[aE,aQ]at ih'⊢;rw[ih'];congr 1;unfold guC;rcases hno v (by simp)with h|⟨h1,h2⟩;·grind
   ·cases hv1:v.1<;>simp_all[F3,Vr,JI]
theorem AJu (hN:20000<=N): ∀(n:Nat) (l:B8),l.length<=n->l.length<=16000->(unS l=none->(AU 58 l).all (V3 N)=false)/\(∀us,unS l=some us->(AU 58 l).all (V3 N)=true/\((AU 58 l).all λp=>p.all YM)=us.all Vr/\(us.all Vr=true->jn N true (AU 58 l)=us.flatMap guC)):=by
 intro n;induction n with
 | zero=>
  intro l hl _;have:l=[]:=bG fG;subst this;refine⟨λh=>(by cases h),λus h=>?_⟩;have e:unS []=some []:=rfl;rw[e]at h;cases h;refine⟨?_,rfl,λ_=>?_⟩;·simp only[AU,aK,fi,ef];grind[V3,V6]
  ·simp only[AU,jn,bQ,Ny];rw[V6 fH hN];rfl
 | succ n ih=>
  intro l hl hb;cases hc:l.contains 58
  ·have hs:AU 58 l=[l]:=by grind[NW,Sz]
   rw[hs];refine⟨λh=>?_,λus h=>?_⟩;·simp only[aK,fi,ef];grind[V3,V6]
   ·obtain⟨r1,r2,r3⟩:=ASY hb hN hc h;refine⟨by simp[r1],by simpa using r2,λhk=>?_⟩;simp only[jn,bQ];exact r3 hk
  ·have hlt:=OJ hc;have hs:AU 58 l=(Ac 58 l).1::AU 58 (Ac 58 l).2.1:=by rw[NW 58 l,ah (by rw[Vb,hc])]
   have he:l=(Ac 58 l).1++58::(Ac 58 l).2.1:=by
    rw[HZ hc];have e:=bw (p:=(· !=(58:UInt8))) (l:=l);have hd:l.dropWhile (· !=(58:UInt8))=58::(l.dropWhile (· !=(58:UInt8))).drop 1:=by cases hq:l.dropWhile (· !=(58:UInt8))with |nil=>grind| cons y ys=>grind[List.head?_dropWhile_not]
    grind
   have hp:(Ac 58 l).1.contains 58=false:=by grind[HZ,Aft]
   have hp': ∀x,x∈(Ac 58 l).1->x≠58:=λx AR e=>by grind
   generalize (Ac 58 l).1=p at *;generalize (Ac 58 l).2.1=r at *;have hlen:=bg List.length he;simp only[an,ag]at hlen;have hun:unS l=(unS p).bind λu=>(unS r).map λv=>u++(false,58)::v:=by grind[unS,ADQ,List.length_append,List.length_cons]
   obtain⟨i1,i2⟩:=ih r fG fG;rw[hs,aK,aK];refine⟨λh=>?_,λus h=>?_⟩
   ·rw[hun]at h;cases hu:unS p with
    | none=>
     have:V3 N p=false:=by unfold V3;rw[V6 fG hN,hu];rfl
     grind
    | some u=>simp_all
   ·rw [hun]at h;cases hu:unS p with
    |none=>grind
    | some u=>
     rw[hu]at h;simp only[aa,br]at h;obtain⟨v,hv,rfl⟩:=h;obtain⟨j1,j2,j3⟩:=i2 v hv;obtain⟨r1,r2,r3⟩:=ASY fG hN hp hu;have h58:Vr (false,58)=true:=rfl;refine⟨by grind,?_,λhk=>?_⟩;·simp_all
     ·rw[List.all_append,aK,h58,bJ,az]at hk;rw[c8,aQ,<-r3 hk.1,<-j3 hk.2];cases hsr:AU 58 r with |nil=>grind[absurd,Ew]|cons q qs=>simp only[jn];rfl
end
end Go.VM
