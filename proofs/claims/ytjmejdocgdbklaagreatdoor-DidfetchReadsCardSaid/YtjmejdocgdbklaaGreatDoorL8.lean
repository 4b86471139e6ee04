import Derived.Test.YtjmejdocgdbklaaGreatDoorL7
set_option linter.defProp false
set_option linter.unusedVariables false
set_option linter.unusedSimpArgs false
namespace Go.VM
section
variable{N:Nat}{l:B8}
def Yd:ApiMedia:=⟨[],[],[]⟩
def okM (n:Nat) (m:ApiMedia):Prop:=(47:UInt8)∉m.type_/\m.params.length<=n/\(∀f,f∈m.params->f.value.length<=n)/\m.type_.length<=n/\m.sub.length<=n
def MB (l:B8) (P:Option (ApiMedia×Int)) (R:Option (ApiMedia×Bool)):Prop:=(∃m,P=some (m,0)/\R=some (m,true)/\okM l.length m)\/(P=some (Yd,200)/\R=some (Yd,false))
def pm1 (hb:l.length<=10000000) (hN:l.length+10<N){i:Nat} (hi:i<=l.length):Ig N ⟨l,i⟩=some ((twT l i).map Cn,!(twT l i==[]),⟨l,((i+(twT l i).length:Nat):Int)⟩):=by have hw:=Wt hi;unfold Ig;rw[AVm hb fy hi,aa];dsimp only;rw[lower_eq _ fy,aa]
def ApB{i:Nat}{n:Int} (h:atI l i n=false):l.length<=i\/∃c t,l.drop i=c::t/\(AC c !=n)=true:=by unfold atI at h;cases hd:l.drop i with |nil=>exact .inl (Kj hd)|cons c t=>rw[hd]at h;have h':(AC c==n)=false:=h;exact .inr ⟨c,t,rfl,by simp only[bne];rw[h'];rfl⟩
def Ano{i:Nat}{n:Int} (h:atI l i n=true): ∃c t,l.drop i=c::t/\(AC c !=n)=false:=by unfold atI at h;cases hd:l.drop i with |nil=>rw[hd]at h;cases h|cons c t=>rw[hd]at h;have h':(AC c==n)=true:=h;exact⟨c,t,rfl,by simp only[bne];rw[h'];rfl⟩
def Alo{β:Type}{i:Nat} (hi:i<=l.length) (n:Int) (F E:Option β):(if(((i:Nat):Int)==(l.length:Int))=true then(if true=true then F else E)else (idx l (i:Int)).bind λx=>if(AC x !=n)=true then F else E)=if atI l i n=true then E else F:=by
 cases h:atI l i n
 ·rcases ApB h with h'|⟨c,t,h1,h2⟩;·rw[ah fC];rfl
  ·have:=Mx h1;rw[ae fC,head_drop h1,aa,h2];rfl
 ·obtain⟨c,t,h1,h2⟩:=Ano h;have:=Mx h1;rw[ae fC,head_drop h1,aa,h2];rfl
def ApQ (hb:l.length<=10000000) (hN:l.length+10<N){y3 y11:B8×Bool×GrammarCursor} (h47:(47:UInt8)∉y3.1) (hy3:y3.1.length<=l.length) (hy11:y11.1.length<=l.length): ∀(n i k k':Nat) (ps:List ApiField),l.length-i<n->i<=l.length->l.length-i+1<k->l.length-i<k'->ps.length<=i->(∀f,f∈ps->f.value.length<=l.length)->MB l (Cq N y3 y11 (λ_=>some (Yd,200)) k true ps ⟨l,(i:Int)⟩) (Ht N l y3.1 y11.1 k' (i:Int) ps):=by
 intro n;induction n with
 |zero=>intro i k k' ps h;omega
 | succ n ih=>
  intro i k k' ps hn hi hk hk' hp hv;obtain⟨k,rfl⟩: ∃m,k=m+1+1:=⟨k-2,fy⟩;obtain⟨k',rfl⟩: ∃m,k'=m+1:=⟨k'-1,fy⟩;have hs:=AAi hi;have hs0:i<=skA l i:=by unfold skA;omega
  rw[Cq,ah rfl,UZ hb fy hi,aa,Ht,AB0 hb fy hi,aa];generalize skA l i=i1 at *;unfold Au;rw[aa];dsimp only[AA];have dead: ∀(i3:Nat) (nm:B8) (X:B8×Bool×GrammarCursor->Option (ApiMedia×Int)),i3<=l.length->((Fw N ⟨l,(i3:Int)⟩).bind λy38=>if false=true then X y38 else grd (CW (ps.length+1) 32) (Cq N y3 y11 (λ_=>some (Yd,200)) (k+1) false (ps++[⟨nm,y38.1⟩]) y38.2.2))=some (Yd,200):=by
   intro i3 nm X h3;rcases AQK (N:=N) hb hN h3 with⟨out,j,_,_,_,h4,_⟩|⟨o,j,_,_,_,h4,_⟩;·rw[h4,aa,ae fB,AJ (by unfold CW;omega),Cq,ae fB]
   ·rw[h4,aa,ae fB,AJ (by unfold CW;omega),Cq,ae fB]
  cases hd:l.drop i1 with
  | nil=>
   have:=Kj hd;have q1:decide ((i1:Int)>=(l.length:Int))=true:=by simp;omega
   have q2:(((i1:Nat):Int)==(l.length:Int))=true:=by simp;omega
   rw[ah q1,ah q2];exact .inl ⟨_,rfl,rfl,h47,by simp only;omega,hv,hy3,hy11⟩
  | cons c t=>
   have hlt:=Mx hd;have q1: ¬decide ((i1:Int)>=(l.length:Int))=true:=by simp;omega
   have q2: ¬(((i1:Nat):Int)==(l.length:Int))=true:=by simp;omega
   rw[ae q1,ae q2,head_drop hd,aa,XV hb hs,aa];have ea:atI l i1 59=(AC c==59):=by unfold atI;rw[hd]
   rw[ea];cases h59:(AC c==59);·rw[show(AC c !=59)=true by simp only[bne];rw[h59];rfl,ah rfl];have h2:=AAi (l:=l) (i:=i1) hs;dsimp only[Bool.toNat_false,Nat.add_zero];rw[UZ hb fy hs,aa,pm1 hb hN h2,aa,ae fB];dsimp only;exact .inr ⟨dead _ _ _ (Wt h2),rfl⟩
   ·rw [show(AC c !=59)=false by simp only[bne];rw[h59];rfl,ae fB,Rk hb hs];dsimp only[Bool.toNat_true];have h2:=AAi (l:=l) (i:=i1+1) fy;have h20:i1+1<=skA l (i1+1):=by unfold skA;omega
    rw[UZ hb fy fy,aa,AB0 hb fy fy,aa];generalize skA l (i1+1)=i2 at *;have h3:=Wt h2;rw[pm1 hb hN h2,aa,ah rfl,AAE hb fy h2,aa];dsimp only;by_cases ht:twT l i2=[];·rw[ah ht,show(!(twT l i2==[]))=false by simpa using ht,ae fB];dsimp only;rw[ae fB];exact .inr ⟨dead _ _ _ h3,rfl⟩
    ·rw [ae ht,show(!(twT l i2==[]))=true by simpa using ht,ah rfl];dsimp only;rw[ah rfl,Alo h3 61,XV hb h3,aa];cases h61:atI l (i2+(twT l i2).length) 61;·rw[ae fB];exact .inr ⟨dead _ _ _ h3,rfl⟩
     ·have h4:=AcC h61;rw[ah rfl];dsimp only[Bool.toNat_true];rw[Rk hb h3];rcases AQK (N:=N) hb hN (i:=i2+(twT l i2).length+1) (by omega)with⟨out,j,a1,a2,a3,a4,a5⟩|⟨o,j,a1,a2,a3,a4,a5⟩
      ·rw[a4,aa,a5,aa,ah rfl,ah rfl,N8 _ fy,aa,AJ (by unfold CW;omega),AJ (by unfold CW;omega)];exact ih j (k+1) k' _ fy a2 fy fy fC (λf hf=>by
        rcases aX.1 hf with hf|hf;·exact hv f hf
        ·rcases bv.1 hf with rfl;exact a3)
      ·rw[a4,aa,a5,aa,ah rfl];dsimp only;rw[ae (show¬(false=true) by decide),AJ (by unfold CW;omega),Cq,ae fB];exact .inr ⟨rfl,rfl⟩
def AmD (c:UInt8):(Cn c=47->c=47)/\(AIY c=true->c≠47):=by
 have:=BH (f:=λn=>(!decide (ADW n=47)||decide (n=47))&&(!Akh n||decide (n≠47))) (g:=λ_=>true) (by kernel_rfl) c;simp only[az,bE,cw,aq,eR]at this;obtain⟨h1,h2⟩:=this;refine⟨λh=>?_,λh e=>?_⟩
 ·have e:ADW c.toNat=47\/True:=.inr trivial;have h9:(Cn c).toNat=47:=by rw[h];rfl
  unfold Cn at h9;have hlt:ADW c.toNat<256:=by have:=c.toNat_lt;unfold ADW;split<;>omega
  rw[dP,bk hlt]at h9;rcases h1 with h1|h1;·exact absurd h9 h1
  ·exact ch.1 h1
 ·subst e;rcases h2 with h2|h2;·unfold AIY at h;rw[h]at h2;cases h2
  ·exact h2 rfl
def Aqx (l:B8) (i:Nat):(47:UInt8)∉(twT l i).map Cn:=by
 intro h;obtain⟨c,hc,e⟩:=bu.1 h;have h1:=(AmD c).1 e;have:AIY c=true:=by have:=aR.1 (List.all_takeWhile (p:=AIY) (l:=l.drop i)) c hc;exact this
 exact(AmD c).2 this h1
def ATQ (hb:l.length<=10000000) (hN:l.length+10<N): ∃m e,NN N l=some (m,e)/\OX N l=some (m,e)/\okM l.length m:=by
 have key:MB l (NN N l) (OZ N l):=by
  unfold NN OZ;have h0:=AAi (l:=l) (i:=0) fy;rw[show(0:Int)=((0:Nat):Int)from rfl,UZ hb fy fy,aa,AB0 hb fy fy,aa];generalize skA l 0=i0 at *;have h1:=Wt h0;have h47:=Aqx l i0;rw[pm1 hb hN h0,aa,AAE hb fy h0,aa];dsimp only[AA];have dead: ∀i3:Nat,i3<=l.length->∀X:B8×Bool×GrammarCursor->Option (ApiMedia×Int),((Ig N ⟨l,(i3:Int)⟩).bind λy11=>if false=true then X y11 else Cq N ((twT l i0).map Cn,!(twT l i0==[]),⟨l,((i0+(twT l i0).length:Nat):Int)⟩) y11 (λ_=>some (Yd,200)) N false [] y11.2.2)=some (Yd,200):=by intro i3 h3 X;rw[pm1 hb hN h3,aa,ae fB];obtain⟨M,rfl⟩: ∃M,N=M+1:=⟨N-1,fy⟩;rw[Cq,ae fB]
  by_cases ht:twT l i0=[];·rw[ah ht,show(!(twT l i0==[]))=false by simpa using ht,ae fB];dsimp only;rw[ae fB];rw[show(!(twT l i0==[]))=false by simpa using ht]at dead;exact .inr ⟨dead _ h1 _,rfl⟩
  ·rw [ae ht,show(!(twT l i0==[]))=true by simpa using ht,ah rfl];rw[show(!(twT l i0==[]))=true by simpa using ht]at dead;dsimp only;rw[ah rfl,Alo h1 47,XV hb h1,aa];generalize hi1:i0+(twT l i0).length=i1 at *;cases h47a:atI l i1 47;·rw[ae fB];exact .inr ⟨dead _ h1 _,rfl⟩
   ·have h4:=AcC h47a;rw[ah rfl];dsimp only[Bool.toNat_true];have h5:=Wt (l:=l) (i:=i1+1) fy;rw[Rk hb h1,pm1 hb hN fy,aa,ah rfl,AAE hb fy fy,aa];by_cases ht2:twT l (i1+1)=[];·rw[ah ht2];dsimp only;rw[show(!(twT l (i1+1)==[]))=false by simpa using ht2,ae fB];obtain⟨M,rfl⟩: ∃M,N=M+1:=⟨N-1,fy⟩;rw[Cq,ae fB];exact .inr ⟨rfl,rfl⟩
    ·rw[ae ht2];dsimp only;have h6:=Wt (l:=l) (i:=i0) h0;rw[show(!(twT l (i1+1)==[]))=true by simpa using ht2,ah rfl,N8 _ fy,aa,N8 _ fy,aa];exact ApQ hb hN (y3:=((twT l i0).map Cn,true,⟨l,((i1:Nat):Int)⟩)) (y11:=((twT l (i1+1)).map Cn,true,⟨l,((i1+1+(twT l (i1+1)).length:Nat):Int)⟩)) h47 (by simp only[co];omega) (by simp only[co];omega) (l.length+1) _ N N [] fy h5 fy fy fA fA
 unfold OX;rcases key with⟨m,h1,h2,h3⟩|⟨h1,h2⟩;·exact⟨m,0,h1,by rw[h2];rfl,h3⟩
 ·exact⟨Yd,200,h1,by rw[h2];rfl,by simp[Yd],by simp[Yd],by simp[Yd],by simp[Yd],by simp[Yd]⟩
def ABA (ps:List ApiField):Bool:=ps.all λf=>!(f.name==([99,104,97,114,115,101,116]:B8))||f.value.map Cn==([117,116,102,45,56]:B8)
def Ap8 (k:Unit->Option Bool): ∀ps:List ApiField,(∀f,f∈ps->f.value.length<=10000000)->Ia N k ps=if ABA ps=true then k ()else some false
 |[],_=>rfl
 | f::ps,h=>by
  have hi:=Ap8 k ps λg hg=>h g (.tail _ hg);have h1:=h f (.head _);rw[Ia];dsimp only[AA];rw[show ABA (f::ps)=((!(f.name==([99,104,97,114,115,101,116]:B8))||f.value.map Cn==([117,116,102,45,56]:B8))&&ABA ps)from rfl,RD _ _ fy fB,aa,hi];cases f.name==([99,104,97,114,115,101,116]:B8);·simp
  ·rw[ah rfl,show List.map Cn ([117,116,102,45,56]:B8)=[117,116,102,45,56]from by decide];cases f.value.map Cn==([117,116,102,45,56]:B8)<;>simp
def ApS (k:Unit->Option Bool): ∀ps:List ApiField,(∀f,f∈ps->f.value.length<=10000000)->Hr N k ps=if ABA ps=true then k ()else some false
 |[],_=>rfl
 | f::ps,h=>by
  have hi:=ApS k ps λg hg=>h g (.tail _ hg);have h1:=h f (.head _);rw[Hr];dsimp only[AA];rw[show ABA (f::ps)=((!(f.name==([99,104,97,114,115,101,116]:B8))||f.value.map Cn==([117,116,102,45,56]:B8))&&ABA ps)from rfl,RN _ _ fy fB,aa,hi];cases f.name==([99,104,97,114,115,101,116]:B8);·simp
  ·rw[ah rfl,show List.map Cn ([117,116,102,45,56]:B8)=[117,116,102,45,56]from by decide];cases f.value.map Cn==([117,116,102,45,56]:B8)<;>simp
def Ajq{m:ApiMedia} (h:okM 10000000 m):QC N m=some (ABA m.params):=by unfold QC;rw[AA,BS (by have:=h.2.1;omega),Ap8 _ _ h.2.2.1];cases ABA m.params<;>rfl
def Ajn{m:ApiMedia} (h:okM 10000000 m):LZ N m=some (ABA m.params):=by unfold LZ;rw[AA,BS (by have:=h.2.1;omega),ApS _ _ h.2.2.1];cases ABA m.params<;>rfl
def AmA: ∀ {a b c d:B8},(47:UInt8)∉a->(47:UInt8)∉c->((a++[47])++b==(c++[47])++d)=(a==c&&b==d)
 |[],b,[],d,_,_=>by simp[dJ]
 | [],b,x::c,d,_,h=>by
  rw[dJ];simp only[bc,ba,bA,bY,az];constructor;·rintro⟨rfl,_⟩;simp at h
  ·rintro⟨h,_⟩;cases h
 | y::a,b,[],d,h,_=>by
  rw[dJ];simp only[bc,ba,bA,bY,az];constructor;·rintro⟨rfl,_⟩;simp at h
  ·rintro⟨h,_⟩;cases h
 | y::a,b,x::c,d,h1,h2=>by have:=AmA (a:=a) (b:=b) (c:=c) (d:=d) (λh=>h1 (.tail _ h)) (λh=>h2 (.tail _ h));rw[dJ]at this⊢;simp only[ba,bA,bY,az]at this⊢;rw[this];simp[and_assoc]
def ASk (m:ApiMedia) (t:B8) (subs:List B8):Bool:=m.type_==t&&subs.contains m.sub&&ABA m.params
def Ao2{m:ApiMedia} (h:okM 10000000 m){t:B8} (ht:(47:UInt8)∉t): ∀subs:List B8,IQ N m (λ_=>some false) (subs.map λs=>(t++[47])++s)=some (ASk m t subs) |[]=>by rw[bM,IQ];simp[ASk]| s::subs=>by have hl:=h.2.2.2;rw[aE,IQ,BS fC,BS fC,Ajq h,aa,Ao2 h ht subs,AmA h.1 ht];unfold ASk;rw[bb];cases m.type_==t<;>cases m.sub==s<;>simp
def ANe:B8:=[97,112,112,108,105,99,97,116,105,111,110]
def ABE:List B8:=[[100,105,100,43,106,115,111,110],[100,105,100,43,108,100,43,106,115,111,110],[106,115,111,110]]
def Amt{m:ApiMedia} (h:okM 10000000 m):Ol N m=some (ASk m ANe ABE):=by unfold Ol letL UJ;dsimp only[AA];rw[BS fA,show([([97,112,112,108,105,99,97,116,105,111,110,47,100,105,100,43,106,115,111,110]:B8),([97,112,112,108,105,99,97,116,105,111,110,47,100,105,100,43,108,100,43,106,115,111,110]:B8),([97,112,112,108,105,99,97,116,105,111,110,47,106,115,111,110]:B8)]:List B8)=ABE.map λs=>(ANe++[47])++s from rfl,Ao2 h fB];rfl
def AnL{m:ApiMedia} (h:okM 10000000 m):Ow N m=some (ASk m ANe ABE):=by
 unfold Ow ASk ABE ANe;rw[Ajn h];simp only[bb,dn,aa];cases m.type_==([97,112,112,108,105,99,97,116,105,111,110]:B8);·simp
 ·rw[ah rfl];cases m.sub==([100,105,100,43,106,115,111,110]:B8)
  ·cases m.sub==([100,105,100,43,108,100,43,106,115,111,110]:B8);·cases m.sub==([106,115,111,110]:B8)<;>simp
   ·simp
  ·simp
end
end Go.VM
namespace Go.VM
section
variable{N:Nat}
def F5:Nat->B8->Option (List (Bool×UInt8)) |0,_=>none|_+1,[]=>some []|k+1,c::t=>if c=37 then(match Mo t with|some x=>(F5 k (t.drop 2)).map ((true,x):: ·)|none=>none)else(F5 k t).map ((false,c):: ·)
def AKv: ∀(k k':Nat) (t:B8),t.length<k->t.length<k'->F5 k t=F5 k' t
 |0,_,_,h,_=>by omega
 |_,0,_,_,h=>by omega
 |k+1,k'+1,[],_,_=>rfl
 | k+1,k'+1,c::t,h,h'=>by
  simp only[ag]at h h';rw[F5,F5];split;·cases he:Mo t with |none=>rfl|some x=>simp only;rw[AKv k k' (t.drop 2) (by grind) (by grind)]
  ·rw[AKv k k' t fy fy]
def unS (t:B8):Option (List (Bool×UInt8)):=F5 (t.length+1) t
def AUT{k:Nat}{t:B8} (h:t.length<k):F5 k t=unS t:=AKv k _ t h (eS _)
theorem Yr: ∀(k:Nat) (t out:B8),t.length<k->Tq k t out=(match F5 k t with|some us=>(out++us.map (·.2),0)|none=>([],2))
 |0,_,_,h=>by omega
 |k+1,[],out,_=>by simp[Tq,F5]
 | k+1,c::t,out,h=>by
  simp only[ag]at h;rw[Tq,F5];split;·cases he:Mo t with |none=>rfl| some x=>simp only;rw[Yr k (t.drop 2) (out++[x]) (by grind)];cases F5 k (t.drop 2)<;>simp
  ·rw[Yr k t (out++[c]) fy];cases F5 k t<;>simp
def nuC (u:Bool×UInt8):B8:=if u.1=true then(if FC u.2=true then [u.2]else Me u.2)else [u.2]
def okN (also:B8) (u:Bool×UInt8):Bool:=u.1||(FC u.2||also.contains u.2)
def AH6 (also:B8): ∀(k:Nat) (t out:B8) (us:List (Bool×UInt8)),t.length<k->F5 k t=some us->TJ also k t out=if us.all (okN also)=true then(out++us.flatMap nuC,0)else([],1)
 |0,_,_,_,h,_=>by omega
 | k+1,[],out,us,_,hu=>by grind[F5,TJ]
 | k+1,c::t,out,us,h,hu=>by
  simp only[ag]at h;rw[F5]at hu;rw[TJ];split at hu;·rename_i hc;rw[ah hc];cases he:Mo t with |none=>grind| some x=>rw[he]at hu;simp only[bl]at hu;obtain⟨vs,hv,rfl⟩:=hu;simp only;rw[AH6 also k (t.drop 2) _ vs (by grind) hv,aI,show okN also (true,x)=true from rfl,bF,aN,<-aP];rfl
  ·rename_i hc;rw[ae hc];simp only[bl]at hu;obtain⟨vs,hv,rfl⟩:=hu;have ih:=AH6 also k t (out++[c]) vs fy hv;cases AQ:(FC c||also.contains c);·simp_all[okN]
   ·rw[ah rfl,ih,aI,show okN also (false,c)=true from AQ,bF,aN,<-aP];rfl
def Al9:Jr 58=false:=fB
def Adw{p r:B8} (h58: ∀x,x∈p->x≠58):Mo (p++58::r)=Mo p/\(Mo p≠none->2<=p.length):=by
 match p with
 | []=>refine⟨?_,λh=>absurd rfl h⟩;cases r with |nil=>rfl|cons y r=>simp[Mo,Al9]
 |[a]=>exact⟨by simp[Mo,Al9],λh=>absurd rfl h⟩
 |a::b::q=>exact⟨rfl,λ_=>by simp⟩
theorem AA9: ∀(k:Nat) (p r:B8),(p++58::r).length<k->(∀x,x∈p->x≠58)->F5 k (p++58::r)=(unS p).bind λu=>(unS r).map λv=>u++(false,58)::v
 |0,_,_,h,_=>by omega
 | k+1,[],r,h,_=>by simp only[bc,ag]at h;rw[bc,F5,ae fB,AUT fy];have:unS []=some []:=rfl;grind
 | k+1,c::p,r,h,h58=>by
  simp only[ba,ag,an]at h;have hp58: ∀x,x∈p->x≠58:=λx AQ=>h58 x (by grind);rw[ba,F5];have hunS:unS (c::p)=if c=37 then(match Mo p with|some x=>(F5 (p.length+1) (p.drop 2)).map ((true,x):: ·)|none=>none)else(F5 (p.length+1) p).map ((false,c):: ·):=rfl;rw[hunS];obtain⟨e1,e2⟩:=Adw (r:=r) hp58;split;·rw[e1];cases he:Mo p with |none=>rfl| some x=>have h2:2<=p.length:=e2 (by grind);simp only;rw[cY h2,AA9 k (p.drop 2) r (by grind) (λy hy=>hp58 y (dv hy)),AUT (t:=p.drop 2) (by grind)];cases unS (p.drop 2)with |none=>rfl|some u=>cases unS r<;>rfl
  ·rw[AA9 k p r (by grind) hp58,AUT (t:=p) fy];cases unS p with |none=>rfl|some u=>cases unS r<;>rfl
def AGF (x:UInt8) (AQ:Jr x=false) (h37:x≠37): ∀(k:Nat) (t:B8) (us:List (Bool×UInt8)),F5 k t=some us->t.contains x=us.any λu=>!u.1&&u.2==x
 |0,_,_,h=>by cases h
 |k+1,[],us,h=>by grind[F5]
 | k+1,c::t,us,h=>by
  rw[F5]at h;split at h
  ·rename_i hc;match t,h with
   |[],h=>cases h
   |[_],h=>cases h
   | a::b::r,h=>
    simp only[Mo]at h;by_cases hh:(Jr a&&Jr b)=true
    ·rw[ah hh]at h;simp only[bl]at h;obtain⟨vs,hv,rfl⟩:=h;have ih:=AGF x AQ h37 k r vs hv;rw[az]at hh;have ha:(x==a)=false:=by simp only[cd,dU];rintro rfl;grind
     have hb:(x==b)=false:=by simp only[cd,dU];rintro rfl;grind
     simp_all
    simp_all
  ·simp only[bl]at h;obtain⟨vs,hv,rfl⟩:=h;rw[bb,AGF x AQ h37 k t vs hv,bT];congr 1;simp only[bh,bF];grind
def AR5 (f:UInt8->Bool) (hf: ∀c,Jr c=true->f c=true) (h37:f 37=true): ∀(k:Nat) (t:B8) (us:List (Bool×UInt8)),F5 k t=some us->t.all f=us.all λu=>u.1||f u.2
 |0,_,_,h=>by cases h
 |k+1,[],us,h=>by grind[F5]
 | k+1,c::t,us,h=>by
  rw[F5]at h;split at h
  ·rename_i hc;match t,h with
   |[],h=>cases h
   |[_],h=>cases h
   | a::b::r,h=>
    simp only[Mo]at h;by_cases hh:(Jr a&&Jr b)=true;·rw[ah hh]at h;simp only[bl]at h;obtain⟨vs,hv,rfl⟩:=h;have ih:=AR5 f hf h37 k r vs hv;simp_all
    simp_all
  ·simp only[bl]at h;obtain⟨vs,hv,rfl⟩:=h;rw[aI,AR5 f hf h37 k t vs hv,aI];simp
end
end Go.VM
namespace Go.VM
section
variable{N:Nat}
def Fp (c:UInt8):Bool:=BU c||(DI c||([46,45,95]:B8).contains c)
def AEh (c:UInt8):M0 N (AC c)=some (Fp c):=by unfold M0 Fp;rw[PX,aa,OP,aa,N7 c _ fB,aa];cases BU c<;>cases DI c<;>rfl
def Vx (c:UInt8):(FC c=(Fp c||c==126))/\(Fp c=true->c≠37/\c≠58/\c≠126)/\(Jr c=true->Fp c=true):=by have key:=BH (f:=λn=>(FC (UInt8.ofNat n)==(Fp (UInt8.ofNat n)||UInt8.ofNat n==126))&&((!Fp (UInt8.ofNat n))||(decide (UInt8.ofNat n≠37)&&decide (UInt8.ofNat n≠58)&&decide (UInt8.ofNat n≠126)))&&((!Jr (UInt8.ofNat n))||Fp (UInt8.ofNat n))) (g:=λ_=>true) (by kernel_rfl) c;simp only[bo,az,bE,cw,bA,aq]at key;grind
def Ip (b:UInt8):B8:=if Fp b=true then [b]else Me b
theorem NT (b:UInt8):(Ip b).length<=3/\1<=(Ip b).length:=by unfold Ip;split<;>simp[Me]
def AQc:UInt8->B8:=Zv [37,55,69] 126
def AdD (b:UInt8):(Me b).flatMap AQc=Me b:=by have key:=BH (f:=λn=>decide (([37,Sr (n / 16),Sr (n % 16)]:B8).flatMap AQc=[37,Sr (n / 16),Sr (n % 16)])) (g:=λ_=>true) (by kernel_rfl) b;simp only[aq]at key;exact key
theorem AVw (b:UInt8):(if FC b=true then [b]else Me b).flatMap AQc=Ip b:=by
 obtain⟨k1,k2,_⟩:=Vx b;unfold Ip;rw[k1];cases hp:Fp b
 ·by_cases h:b=126;·subst h;rfl
  ·rw[show(b==126)=false by grind,cA,ae fB,AdD]
 ·obtain⟨_,_,h3⟩:=k2 hp;rw[dc,ah rfl];simp[AQc,Zv,h3]
def AdQ (b:UInt8):(Lr [] b).flatMap AQc=Ip b:=by grind[AVw,Lr]
def guC (u:Bool×UInt8):B8:=if u.1=true then Ip u.2 else [u.2]
def Uw (u:Bool×UInt8):Bool:=u.1||(Fp u.2||u.2==58)
def AoZ{u:Bool×UInt8} (h:Uw u=true):(nuC u).flatMap AQc=guC u:=by
 obtain⟨e,c⟩:=u;unfold nuC guC;cases e
 ·simp only[al,au];have hc:c≠126:=by rintro rfl;simp only[Uw,be]at h;exact absurd h fB
  simp[AQc,Zv,hc]
 ·simp only[av];exact AVw c
def Aag{us:List (Bool×UInt8)} (h:us.all Uw=true):(us.flatMap nuC).flatMap AQc=us.flatMap guC:=by induction us with |nil=>rfl| cons u us ih=>rw[aI,az]at h;rw[aN,cR,AoZ h.1,ih h.2,aN]
def P5 (s:B8):B8×Int:=match unS s with |none=>([],2)|some us=>if us.all Uw=true then(us.flatMap guC,0)else([],1)
def Aph (us:List (Bool×UInt8)):(us.all (okN [58])&&!(us.any λu=>!u.1&&u.2==126))=us.all Uw:=by
 induction us with
 |nil=>rfl
 | cons u us ih=>
  rw[aI,bT,aI,<-ih];obtain⟨e,c⟩:=u;obtain⟨k1,k2,_⟩:=Vx c;have hu:(okN [58] (e,c)&&!(!e&&c==126))=Uw (e,c):=by
   unfold okN Uw;cases e;·simp only[be,bh,bF];grind
   ·simp
  rw[<-hu];cases okN [58] (e,c)<;>cases (!e&&c==126)<;>cases us.all (okN [58])<;>cases (us.any λu=>!u.1&&u.2==126)<;>rfl
def AjN (s:B8) (hb:s.length<=16000) (hN:20000<=N): ∃v,MI N s=some (v,(P5 s).2)/\((P5 s).2=0->v=(P5 s).1):=by
 unfold MI;have hd:Ac N s=Tq N s []:=by unfold Ac;grind
 have hn:Ce N s [58]=TJ [58] N s []:=by unfold Ce;grind
 have hun:F5 N s=unS s:=AUT fy;rw[IW _ _ hN,aa,P6 _ hN,aa,hd,hn,Yr N s [] fy,hun];dsimp only[AA];unfold P5;cases hu:unS s with
 |none=>simp
 | some us=>
  simp only;rw[ae fB,AH6 [58] N s [] us fy (by grind),AOS,aa];have h126:s.contains 126=us.any λu=>!u.1&&u.2==126:=AGF 126 fB fB _ s us hu;have hk:=Aph us;rw[<-h126]at hk;have hlen:=KY (N:=N) s [58];rw[hn,AH6 [58] N s [] us fy (by grind)]at hlen;cases h1:us.all (okN [58]);·rw[h1,dV]at hk;rw[<-hk];simp only[al,au];rw[ae fB,Qk _ _ _ rfl fA,aa];simp
  ·rw[h1,bF]at hk;rw[h1]at hlen;simp only[av,bc]at hlen⊢;rw[ah fB];cases h2:s.contains 126;·rw[h2]at hk;rw[<-hk];simp only[bh,al,au,av];rw[Qk _ _ _ rfl fy,aa];exact⟨_,rfl,λ_=>Aag hk.symm⟩
   ·rw[h2]at hk;rw[<-hk];simp only[bL,al,au,av];rw[Qk _ _ _ rfl fy,aa];simp
end
end Go.VM
namespace Go.VM
section
variable{N:Nat}
theorem AJt{p:UInt8->Bool}{x:UInt8}: ∀ {l:B8},x∈l.takeWhile p->p x=true
 |[],h=>by simp at h
 | c::l,h=>by
  rw[aJ]at h;split at h
  ·rename_i hc;rcases aL.1 h with rfl|h;·omega
   ·exact AJt h
  grind
def WY (c:UInt8):Bool:=Fp c||c==37
def ATK: ∀(k:Nat) (t:B8) (us:List (Bool×UInt8)),F5 k t=some us->∀u,u∈us->u.1=true\/u.2≠37
 |0,_,_,h,_,_=>by cases h
 |k+1,[],us,h,u,hu=>by grind[F5]
 | k+1,c::t,us,h,u,hu=>by
  rw[F5]at h;split at h
  ·cases he:Mo t with
   |none=>grind
   | some x=>
    rw[he]at h;simp only[bl]at h;obtain⟨vs,hv,rfl⟩:=h;rcases aL.1 hu with rfl|hu;·simp
    ·exact ATK k _ vs hv u hu
  ·rename_i hc;simp only[bl]at h;obtain⟨vs,hv,rfl⟩:=h;rcases aL.1 hu with rfl|hu;·grind
   ·exact ATK k t vs hv u hu
theorem Anu: ∀ {t:B8}{us:List (Bool×UInt8)},unS t=some us->(us=[]<->t=[])
 | [],us,h=>by have:unS []=some []:=rfl;grind
 | c::t,us,h=>by
  unfold unS at h;rw[F5]at h;constructor
  ·rintro rfl;split at h;·cases he:Mo t with |none=>grind|some x=>simp_all
   simp_all
  simp
theorem VV{p:B8} (hb:p.length<=16000) (hN:20000<=N):Ac N p=(match unS p with|some us=>(us.map (·.2),0)|none=>([],2)):=by unfold Ac;rw[ae fy,Yr N p [] fy,AUT fy];cases unS p<;>simp
def M6 (N:Nat) (p:B8):B8:=(Ac N p).1.flatMap Ip
def jn (N:Nat):Bool->List B8->B8 |_,[]=>[]|true,p::ps=>M6 N p++jn N false ps|false,p::ps=>58::(M6 N p++jn N false ps)
def Uz (N:Nat) (p:B8):Bool:=(Ac N p).2==0
def AOo{p:B8}{u:List (Bool×UInt8)} (hb:p.length<=16000) (hN:20000<=N) (h58:p.contains 58=false) (hu:unS p=some u):Uz N p=true/\p.all WY=u.all Uw/\(u.all Uw=true->M6 N p=u.flatMap guC):=by
 have hlit:=ATK _ p u hu;have h58':=AGF 58 fB fB _ p u hu;rw[h58]at h58';have hno: ∀v,v∈u->v.1=true\/(v.2≠37/\v.2≠58):=λv hv=>by
  rcases hlit v hv with h|h;·grind
  ·have:=eL.1 h58'.symm v hv;cases hv1:v.1;·refine .inr ⟨h,λe=>?_⟩;rw[hv1,e]at this;exact this rfl
   ·exact .inl rfl
 refine⟨by grind[Uz,VV],?_,λhok=>?_⟩;·rw[AR5 WY (λc hc=>by unfold WY;rw[(Vx c).2.2 hc];rfl) fB _ p u hu];grind[Uw,WY]
 ·unfold M6;rw[VV hb hN,hu];clear hu h58' hlit;induction u with
  |nil=>rfl
  | cons v u ih=>
   rw[aI,az]at hok;have ih':=ih (λw hw=>hno w (by grind)) hok.2;simp only[aE,aN]at ih'⊢;rw[ih'];congr 1;unfold guC;rcases hno v (by simp)with h|⟨h1,h2⟩;·grind
   ·cases hv1:v.1<;>simp_all[Fp,Uw,Ip]
theorem ALR (hN:20000<=N): ∀(n:Nat) (l:B8),l.length<=n->l.length<=16000->(unS l=none->(AX 58 l).all (Uz N)=false)/\(∀us,unS l=some us->(AX 58 l).all (Uz N)=true/\((AX 58 l).all λp=>p.all WY)=us.all Uw/\(us.all Uw=true->jn N true (AX 58 l)=us.flatMap guC)):=by
 intro n;induction n with
 | zero=>
  intro l hl _;have:l=[]:=bD fy;subst this;refine⟨λh=>(by cases h),λus h=>?_⟩;have e:unS []=some []:=rfl;rw[e]at h;cases h;refine⟨?_,rfl,λ_=>?_⟩;·simp only[AX,aI,fc,d6];grind[Uz,VV]
  ·simp only[AX,jn,bm,M6];rw[VV fA hN];rfl
 | succ n ih=>
  intro l hl hb;cases hc:l.contains 58
  ·have hs:AX 58 l=[l]:=by grind[M9,SK]
   rw[hs];refine⟨λh=>?_,λus h=>?_⟩;·simp only[aI,fc,d6];grind[Uz,VV]
   ·obtain⟨r1,r2,r3⟩:=AOo hb hN hc h;refine⟨by simp[r1],by simpa using r2,λhk=>?_⟩;simp only[jn,bm];exact r3 hk
  ·have hlt:=Mf hc;have hs:AX 58 l=(AR 58 l).1::AX 58 (AR 58 l).2.1:=by rw[M9 58 l,ah (by rw[Uk,hc])]
   have he:l=(AR 58 l).1++58::(AR 58 l).2.1:=by
    rw[Gt hc];have e:=aU (p:=(· !=(58:UInt8))) (l:=l);have hd:l.dropWhile (· !=(58:UInt8))=58::(l.dropWhile (· !=(58:UInt8))).drop 1:=by cases hq:l.dropWhile (· !=(58:UInt8))with |nil=>grind| cons y ys=>grind[List.head?_dropWhile_not]
    grind
   have hp:(AR 58 l).1.contains 58=false:=by grind[Gt,AJt]
   have hp': ∀x,x∈(AR 58 l).1->x≠58:=λx AQ e=>by grind
   generalize (AR 58 l).1=p at *;generalize (AR 58 l).2.1=r at *;have hlen:=a8 List.length he;simp only[an,ag]at hlen;have hun:unS l=(unS p).bind λu=>(unS r).map λv=>u++(false,58)::v:=by grind[unS,AA9,List.length_append,List.length_cons]
   obtain⟨i1,i2⟩:=ih r fy fy;rw[hs,aI,aI];refine⟨λh=>?_,λus h=>?_⟩
   ·rw[hun]at h;cases hu:unS p with
    | none=>
     have:Uz N p=false:=by unfold Uz;rw[VV fy hN,hu];rfl
     grind
    | some u=>simp_all
   ·rw [hun]at h;cases hu:unS p with
    |none=>grind
    | some u=>
     rw[hu]at h;simp only[aa,bl]at h;obtain⟨v,hv,rfl⟩:=h;obtain⟨j1,j2,j3⟩:=i2 v hv;obtain⟨r1,r2,r3⟩:=AOo fy hN hp hu;have h58:Uw (false,58)=true:=rfl;refine⟨by grind,?_,λhk=>?_⟩;·simp_all
     ·rw[List.all_append,aI,h58,bF,az]at hk;rw[cR,aN,<-r3 hk.1,<-j3 hk.2];cases hsr:AX 58 r with |nil=>grind[absurd,Eu]|cons q qs=>simp only[jn];rfl
end
end Go.VM
namespace Go.VM
section
variable{N:Nat}
def mB (c:UInt8):Bool:=DI c||(!decide (AC c<97)&&!decide (AC c>122))
def AB3 (k:Unit->Option Bool): ∀l:B8,HY N k l=if l.all mB=true then k ()else some false |[]=>by grind[HY]| c::l=>by rw[HY];dsimp only[AA];rw[QY,aa,AB3 k l,aI];unfold mB;cases DI c<;>cases decide (AC c<97)<;>cases decide (AC c>122)<;>simp
def ABz (k:Unit->Option Bool): ∀l:B8,Fa N k l=if l.all mB=true then k ()else some false |[]=>by grind[Fa]| c::l=>by rw[Fa];dsimp only[AA];rw[OP,aa,ABz k l,aI];unfold mB;cases DI c<;>cases decide (AC c<97)<;>cases decide (AC c>122)<;>simp
def ACT (l:B8):Bool:=l.all mB&&!(l==[])
def Abw (l:B8) (hb:l.length<=1000000):Pq N l=some (ACT l):=by unfold Pq ACT;rw[AA,BS fy,AB3];cases l.all mB<;>simp
def AgW (l:B8) (hb:l.length<=1000000):Nh N l=some (ACT l):=by unfold Nh ACT;rw[AA,BS fy,ABz];cases l.all mB<;>simp
def AkT (l:B8) (c:UInt8) (hb:l.length<=1000000):strings_HasSuffix N l [c]=some (l.getLast?==some c):=by
 unfold strings_HasSuffix Et;rcases cF l with rfl|⟨l,x,rfl⟩;·rfl
 ·rw[fh]at *;have hb':l.length<=1000000:=by grind
  rw[ah (by grind),show wr .i64 (((l++[x]).length:Int)-(([c]:B8).length:Int))=((l.length:Nat):Int) by grind[AO,List.length_append,List.length_cons,List.length_nil],Cf fA,aa,aa,dW];simp
def NS:ApiDID:=⟨[],[]⟩
def AHl (l:B8):Bool:=l==[]||l.getLast?==some 58
def I4 (s:B8):ApiDID×Int:=if s.length>4096 then(NS,5) else if preB [100,105,100,58] s=false then(NS,60) else if(AR 58 (s.drop 4)).2.2=false then(NS,6) else if ACT (AR 58 (s.drop 4)).1=false then(NS,100) else if((P5 (AR 58 (s.drop 4)).2.1).2 !=0)=true then(NS,(P5 (AR 58 (s.drop 4)).2.1).2) else if AHl (P5 (AR 58 (s.drop 4)).2.1).1=true then(NS,3) else(⟨(AR 58 (s.drop 4)).1,(P5 (AR 58 (s.drop 4)).2.1).1⟩,0)
def Akp (u:Bool×UInt8):(guC u).length<=3:=by grind[NT,guC]
def AR0: ∀(k:Nat) (t:B8) (us:List (Bool×UInt8)),F5 k t=some us->us.length<=t.length
 |0,_,_,h=>by cases h
 |k+1,[],us,h=>by grind[F5]
 | k+1,c::t,us,h=>by
  rw[F5]at h;split at h;·cases he:Mo t with |none=>grind| some x=>rw[he]at h;simp only[bl]at h;obtain⟨vs,hv,rfl⟩:=h;have:=AR0 k _ vs hv;grind
  ·simp only[bl]at h;obtain⟨vs,hv,rfl⟩:=h;have:=AR0 k _ vs hv;grind
def Re{α:Type}{f:α->B8}{n:Nat} (h: ∀x,(f x).length<=n): ∀l:List α,(l.flatMap f).length<=n * l.length |[]=>by simp| x::l=>by have:=Re h l;have:=h x;rw[aN,an,ag,Nat.mul_succ];omega
theorem ANy (s:B8):(P5 s).1.length<=3 * s.length:=by
 unfold P5;cases hu:unS s with
 |none=>simp
 | some us=>
  simp only;split;·have h1:=Re Akp us;have h2:=AR0 _ s us hu;grind
  ·simp
def AAJ (s:B8) (hb:s.length<=1000000) (hN:20000<=N):JO N s=some (I4 s):=by
 unfold JO I4;by_cases h1:s.length>4096;·rw[ah (by grind),ah h1];rfl
 rw[ae (by grind),ae h1,AUo,aa];cases hp:preB [100,105,100,58] s;·rfl
 have hl:=FP 58 (s.drop 4);rw[aB]at hl;simp only[av,ag,ap,b9,Nat.reduceAdd];rw[ae (by decide: ¬(true=false)),Ml 58 _ (by grind),aa];cases hc:(AR 58 (s.drop 4)).2.2;·rfl
 simp only[av];rw[ae (by decide: ¬(true=false)),Abw _ fy,aa];cases hm:ACT (AR 58 (s.drop 4)).1;·rfl
 simp only[av];have hcl:=ANy (AR 58 (s.drop 4)).2.1;obtain⟨v,e1,e2⟩:=AjN (N:=N) (AR 58 (s.drop 4)).2.1 fy hN;rw[ae (by decide: ¬(true=false)),e1,aa];by_cases h5:((P5 (AR 58 (s.drop 4)).2.1).2 !=0)=true;·rw[ah h5,ah h5];rfl
 rw[ae h5,ae h5];have hv:=e2 (by grind);subst hv;dsimp only[AA];rw[AkT _ _ fy,aa];unfold AHl;cases ((P5 (AR 58 (s.drop 4)).2.1).1==[])<;>cases ((P5 (AR 58 (s.drop 4)).2.1).1.getLast?==some 58)<;>rfl
def AEe{l:B8} (hb:l.length<=1000000) (k:B8->Option B8): ∀(t pre out:B8),l=pre++t->out.length<=3 * pre.length->EI N l k t (pre.length:Int) out=k (out++t.flatMap Ip)
 |[],pre,out,h,_=>by grind[EI]
 | c::t,pre,out,h,ho=>by
  have hl:=a8 List.length h;simp only[an,ag]at hl;have hsub:sub l (pre.length:Int) ((pre.length:Int)+1)=some [c]:=by rw[show(pre.length:Int)+1=((pre.length+1:Nat):Int) by omega,BB l _ _ fy fy,h,dW];simp
  have hel:=NT c;have nxt: ∀x:B8,x=Ip c->EI N l k t ((pre.length:Int)+1) (out++x)=k (out++(c::t).flatMap Ip):=λx AQ=>by have:=AEe hb k t (pre++[c]) (out++x) (by grind) (by grind);grind
  rw[EI];dsimp only[AA];rw[AEh,aa,hsub,aa,Ta,aa];cases hp:Fp c;·rw[ae fB,BS (by grind[Me])];grind[Ip]
  ·rw[ah rfl,BS (by grind)];grind[Ip]
def APe (l:B8) (hb:l.length<=1000000):Kh N l=some (l.flatMap Ip):=by unfold Kh;rw[AA,BS fy];have:=AEe (N:=N) hb (λj1=>some j1) l [] [] rfl fA;grind
def rd1 (hN:20000<=N) (k:Unit->Option (ApiDID×Int)): ∀ps:List B8,ER N k ps=if ps.all (Uz N)=true then k ()else some (NS,2)
 |[]=>by grind[ER]
 | p::ps=>by
  rw[ER,OH _ hN,aa,rd1 hN k ps,aI];unfold Uz;cases h:((Ac N p).2==0);·rw[ah (by grind)];rfl
  simp_all
theorem rd3 (k:Unit->Option (ApiDID×Int)): ∀l:B8,EQ N k l=if l.all WY=true then k ()else some (NS,1) |[]=>by grind[EQ]| c::l=>by rw[EQ];dsimp only[AA];rw[AEh,aa,rd3 k l,aI,bne,Q8];unfold WY;have e:(c==37)=decide (c=37):=rfl;rw[e];cases Fp c<;>cases decide (c=37)<;>simp[NS]
def AeO (p:B8):(M6 N p).length<=3 * p.length:=by have h1:=Re (λx=>(NT x).1) (Ac N p).1;grind[J6,M6]
def rd2 (hN:20000<=N) (k:B8->Option (ApiDID×Int)): ∀(ps:List B8) (i:Int) (acc:B8),0<=i->(∀p,p∈ps->p.length<=20000)->acc.length+60001 * ps.length<=1000000000->C8 N k ps i acc=if(ps.all λp=>p.all WY)=true then k (acc++jn N (decide (i=0)) ps)else some (NS,1)
 |[],i,acc,_,_,_=>by rw[C8];cases decide (i=0)<;>simp[jn]
 | p::ps,i,acc,hi,hp,ha=>by
  have hpl:=hp p fA;have hpt:=AeO (N:=N) p;simp only[ag,Nat.mul_succ]at ha;have ih:=λacc' h'=>rd2 hN k ps (i+1) acc' fy (λq hq=>hp q (by grind)) h';have hd1:decide (i+1=0)=false:=aO fy;rw[hd1]at ih;rw[C8];dsimp only[AA];rw[BS fy,rd3,OH _ hN,aa,aI];cases h1:p.all WY;·rfl
  rw[ah rfl,bF];have hdl:=J6 (N:=N) p;rw[APe _ fy,aa];change (if decide (i>0)=true then grd _ (grd (AL ((acc++[58]).length+(M6 N p).length)) (C8 N k ps (i+1) (acc++[58]++M6 N p)))else grd (AL (acc.length+(M6 N p).length)) (C8 N k ps (i+1) (acc++M6 N p)))=_;by_cases h0:i=0;·rw[ae (by grind),aA h0,BS fy,ih _ (by grind)];grind[jn]
  ·rw[ah (by grind),aO h0,BS (by grind),BS (by grind),ih _ (by grind)];grind[jn]
def AeV (b:UInt8):(Ip b).getLast?≠some 58:=by have key:=BH (f:=λn=>decide ((Ip (UInt8.ofNat n)).getLast?≠some 58)) (g:=λ_=>true) (by kernel_rfl) b;simp_all
def AD2 (p:B8):(M6 N p).getLast?≠some 58:=by
 unfold M6;generalize (Ac N p).1=d;rcases cF d with rfl|⟨d,x,rfl⟩;·simp
 ·rw[fh];have h1:=(NT x).2;rw[cR,List.flatMap_singleton,bO];cases h:(Ip x).getLast? with |none=>rw[List.getLast?_eq_none_iff]at h;rw[h]at h1;simp at h1|some y=>simp only[cn];rw[<-h];exact AeV x
def ATf: ∀(ps:List B8) (f:Bool) (hne:ps≠ []),AHl (jn N f ps)=(M6 N (ps.getLast hne)==[])
 |[],_,h=>absurd rfl h
 | [p],true,_=>by have:=AD2 (N:=N) p;simp_all[jn,AHl,M6]
 | [p],false,_=>by have:=AD2 (N:=N) p;simp only[jn,bm,List.getLast_singleton,AHl];grind
 | p::q::ps,f,h=>by
  have ih:=ATf (q::ps) false fA;rw[List.getLast_cons fA,<-ih];obtain⟨z,zs,hz⟩: ∃z zs,jn N false (q::ps)=z::zs:=⟨58,M6 N q++jn N false ps,rfl⟩;cases f;·rw[show jn N false (p::q::ps)=58::(M6 N p++jn N false (q::ps))from rfl,hz];unfold AHl;grind
  ·rw[show jn N true (p::q::ps)=M6 N p++jn N false (q::ps)from rfl,hz];unfold AHl;grind
end
end Go.VM
namespace Go.VM
section
variable{N:Nat}
def ARk (c:UInt8): ∀(n:Nat) (l:B8),l.length<=n->((AX c l).map List.length).sum+(AX c l).length=l.length+1:=by intro n;induction n with | zero=>intro l hl;have:l=[]:=bD fy;subst this;rfl| succ n ih=>intro l hl;cases l with |nil=>rfl| cons x t=>grind[AX,absurd]
def AEd{l:List B8} (hne:l≠ []) (hb:l.length<=1000000):idx l (wr .i64 ((l.length:Int)-1))=some (l.getLast hne):=by have:0<l.length:=bB.2 hne;rw[show wr .i64 ((l.length:Int)-1)=((l.length-1:Nat):Int) by rw[AO fy];omega,Jt,<-dA,ce hne]
def AMi{p:B8} (hb:p.length<=16000) (hN:20000<=N) (hk:Uz N p=true):(M6 N p==[])=(p==[]):=by
 unfold Uz at hk;rw[VV hb hN]at hk;cases hu:unS p with
 |none=>grind
 | some u=>
  have hn:=Anu hu;unfold M6;rw[VV hb hN,hu];cases u with
  |nil=>simp_all
  | cons v u=>
   have hp:p≠ []:=λe=>by grind
   have h1:=(NT v.2).2;cases hq:Ip v.2 with |nil=>grind| cons y ys=>simp_all
def Wl (s:B8) (hb:s.length<=1000000) (hN:20000<=N):GU N s=some (I4 s):=by
 unfold GU I4;by_cases h1:s.length>4096;·rw[ah (by grind),ah h1];rfl
 rw[ae (by grind),ae h1,SA,aa];cases hp:preB [100,105,100,58] s;·rfl
 have h4:=PR hp;simp only[ag,ap]at h4;have hl:=FP 58 (s.drop 4);have hdl:(s.drop 4).length<=1000000:=by grind
 rw[aB]at hl;simp only[av];rw[ae (by decide: ¬(true=false)),show sub s 4 (s.length:Int)=some (s.drop 4)from Cf (n:=4) fy,aa,Ai4 58 _ hdl,aa,XT,Uk];cases hc:(s.drop 4).contains 58;·rfl
 obtain⟨s1,s2⟩:=XG hc hdl;simp only[bL,al,au];rw[ae (by decide: ¬(true=false)),s1,aa,AgW _ fy,aa];cases hm:ACT (AR 58 (s.drop 4)).1;·rfl
 simp only[av];rw[ae (by decide: ¬(true=false)),s2,aa,show(58:Int)=AC 58 from rfl,Pg _ 58 fy,aa];generalize (AR 58 (s.drop 4)).1=m at *;have hd:(AR 58 (s.drop 4)).2.1.length<=4096:=fy;generalize (AR 58 (s.drop 4)).2.1=d at *;have hsl:=Jf 58 d;have hsp:=Ih 58 d;have hne:=Eu 58 d;obtain⟨r1,r2⟩:=ALR (N:=N) hN d.length d (aw _) fy;dsimp only[AA];rw[BS fy,rd1 hN];unfold P5;cases hu:unS d with
 | none=>grind
 | some us=>
  obtain⟨q1,q2,q3⟩:=r2 us hu;simp only;rw[q1,ah rfl,BS fy,rd2 hN _ _ 0 [] fy (λp h=>by grind) (by grind),q2];cases hk:us.all Uw;·rfl
  simp only[av];rw[ae fB,bc];simp only[bg];rw[q3 hk,AEd hne fy,aa];have hlast:Uz N ((AX 58 d).getLast hne)=true:=aR.1 q1 _ (eO hne);have hll:((AX 58 d).getLast hne).length<=16000:=by grind
  have he:=ATf (N:=N) (AX 58 d) true hne;rw[q3 hk,AMi hll hN hlast]at he;rw[he];cases ((AX 58 d).getLast hne==[])<;>rfl
def Gy (d:ApiDID):B8:=(([100,105,100,58]++d.method)++[58])++d.iD
def QK (d:ApiDID) (h:d.method.length<=1000000/\d.iD.length<=1000000):DK N d=some (Gy d):=by grind[DK,Gy,BS]
def QM (d:ApiDID) (h:d.method.length<=1000000/\d.iD.length<=1000000):Cm N d=some (Gy d):=by grind[Cm,Gy,BS]
theorem QI (s:B8):(I4 s).1.method.length<=4096/\(I4 s).1.iD.length<=12288:=by grind[FP,ANy,AR,List.length_drop,I4,NS]
end
end Go.VM
