import Derived.Test.YtenhbiooanampaaGreatDoorL5
set_option linter.defProp false
set_option linter.unusedVariables false
set_option linter.unusedSimpArgs false
namespace Go.VM
section
variable{N:Nat}
theorem AiS{p:UInt8->Bool}{x:UInt8}: ∀ {l:B8},x∈l.takeWhile p->p x=true
 |[],h=>by simp at h
 | c::l,h=>by
  rw[bc]at h;split at h
  ·rename_i hc;rcases aM.1 h with rfl|h;·omega
   ·exact AiS h
  grind
def XU (c:UInt8):Bool:=Es c||c==37
def AXc: ∀(k:Nat) (t:B8) (us:List (Bool×UInt8)),FN k t=some us->∀u,u∈us->u.1=true\/u.2≠37
 |0,_,_,h,_,_=>by cases h
 |k+1,[],us,h,u,hu=>by grind[FN]
 | k+1,c::t,us,h,u,hu=>by
  rw[FN]at h;split at h
  ·cases he:NU t with
   |none=>grind
   |some x=>
    rw[he]at h;simp only[aV]at h;obtain⟨vs,hv,rfl⟩:=h;rcases aM.1 hu with rfl|hu;·simp
    ·exact AXc k _ vs hv u hu
  ·rename_i hc;simp only[aV]at h;obtain⟨vs,hv,rfl⟩:=h;rcases aM.1 hu with rfl|hu;·grind
   ·exact AXc k t vs hv u hu
theorem AwX: ∀ {t:B8}{us:List (Bool×UInt8)},unS t=some us->(us=[]<->t=[])
 |[],us,h=>by have:unS []=some []:=rfl;grind
 | c::t,us,h=>by
  unfold unS at h;rw[FN]at h;constructor
  ·rintro rfl;split at h;·cases he:NU t with|none=>grind|some x=>simp_all
   simp_all
  simp
theorem Vz{p:B8} (hb:p.length<=16000) (hN:20000<=N):Ao N p=(match unS p with|some us=>(us.map (·.2),0)|none=>([],2)):=by unfold Ao;rw[aj fH,ZJ N p [] fH,AWE fH];cases unS p<;>simp
def Nl (N:Nat) (p:B8):B8:=(Ao N p).1.flatMap IX
def jn (N:Nat):Bool->List B8->B8|_,[]=>[]|true,p::ps=>Nl N p++jn N false ps|false,p::ps=>58::(Nl N p++jn N false ps)
def Vn (N:Nat) (p:B8):Bool:=(Ao N p).2==0
def AQA{p:B8}{u:List (Bool×UInt8)} (hb:p.length<=16000) (hN:20000<=N) (h58:p.contains 58=false) (hu:unS p=some u):Vn N p=true/\p.all XU=u.all Vf/\(u.all Vf=true->Nl N p=u.flatMap guC):=by
 have hlit:=AXc _ p u hu;have h58':=AHF 58 fJ fJ _ p u hu;rw[h58]at h58';have hno: ∀v,v∈u->v.1=true\/(v.2≠37/\v.2≠58):=λv hv=>by
  rcases hlit v hv with h|h;·grind
  ·have:=eT.1 h58'.symm v hv;cases hv1:v.1;·refine .inr ⟨h,λe=>?_⟩;rw[hv1,e]at this;exact this rfl
   ·exact .inl rfl
 refine⟨by grind[Vn,Vz],?_,λhok=>?_⟩;·rw[AXD XU (λc hc=>by unfold XU;rw[(WF c).2.2 hc];rfl) fJ _ p u hu];grind[Vf,XU]
 ·unfold Nl;rw[Vz hb hN,hu];clear hu h58' hlit;induction u with
  |nil=>rfl
  |cons v u ih=>
   rw[aQ,aw]at hok;have ih':=ih (λw hw=>hno w (by grind)) hok.2;simp only[aF,aR]at ih'⊢;rw[ih'];congr 1;unfold guC;rcases hno v (by simp)with h|⟨h1,h2⟩;·grind
   ·cases hv1:v.1<;>simp_all[Es,Vf,IX]
theorem ALO (hN:20000<=N): ∀(n:Nat) (l:B8),l.length<=n->l.length<=16000->(unS l=none->(AV 58 l).all (Vn N)=false)/\(∀us,unS l=some us->(AV 58 l).all (Vn N)=true/\((AV 58 l).all λp=>p.all XU)=us.all Vf/\(us.all Vf=true->jn N true (AV 58 l)=us.flatMap guC)):=by
 intro n;induction n with
 |zero=>
  intro l hl _;have:l=[]:=bw fH;subst this;refine⟨λh=>(by cases h),λus h=>?_⟩;have e:unS []=some []:=rfl;rw[e]at h;cases h;refine⟨?_,rfl,λ_=>?_⟩;·simp only[AV,aQ,dS,dh];grind[Vn,Vz]
  ·simp only[AV,jn,bo,Nl];rw[Vz fI hN];rfl
 | succ n ih=>
  intro l hl hb;cases hc:l.contains 58
  ·have hs:AV 58 l=[l]:=by grind[MP,TC]
   rw[hs];refine⟨λh=>?_,λus h=>?_⟩;·simp only[aQ,dS,dh];grind[Vn,Vz]
   ·obtain⟨r1,r2,r3⟩:=AQA hb hN hc h;refine⟨by simp[r1],by simpa using r2,λhk=>?_⟩;simp only[jn,bo];exact r3 hk
  ·have hlt:=QA hc;have hs:AV 58 l=(Af 58 l).1::AV 58 (Af 58 l).2.1:=by rw[MP 58 l,an (by rw[ALM,hc])]
   have he:l=(Af 58 l).1++58::(Af 58 l).2.1:=by
    rw[Hf hc];have e:=bl (p:=(· !=(58:UInt8))) (l:=l);have hd:l.dropWhile (· !=(58:UInt8))=58::(l.dropWhile (· !=(58:UInt8))).drop 1:=by cases hq:l.dropWhile (· !=(58:UInt8))with|nil=>grind|cons y ys=>grind[List.head?_dropWhile_not]
    grind
   have hp:(Af 58 l).1.contains 58=false:=by grind[Hf,AiS]
   have hp': ∀x,x∈(Af 58 l).1->x≠58:=λx AX e=>by grind
   generalize (Af 58 l).1=p at *;generalize (Af 58 l).2.1=r at *;have hlen:=br List.length he;simp only[ah,ae]at hlen;have hun:unS l=(unS p).bind λu=>(unS r).map λv=>u++(false,58)::v:=by grind[unS,ABs,List.length_append,List.length_cons]
   obtain⟨i1,i2⟩:=ih r fH fH;rw[hs,aQ,aQ];refine⟨λh=>?_,λus h=>?_⟩
   ·rw[hun]at h;cases hu:unS p with
    |none=>
     have:Vn N p=false:=by unfold Vn;rw[Vz fH hN,hu];rfl
     grind
    |some u=>simp_all
   ·rw[hun]at h;cases hu:unS p with
    |none=>grind
    |some u=>
     rw[hu]at h;simp only[aa,aV]at h;obtain⟨v,hv,rfl⟩:=h;obtain⟨j1,j2,j3⟩:=i2 v hv;obtain⟨r1,r2,r3⟩:=AQA fH hN hp hu;have h58:Vf (false,58)=true:=rfl;refine⟨by grind,?_,λhk=>?_⟩;·simp_all
     ·rw[List.all_append,aQ,h58,bQ,aw]at hk;rw[cV,aR,<-r3 hk.1,<-j3 hk.2];cases hsr:AV 58 r with|nil=>grind[absurd,Fg]|cons q qs=>simp only[jn];rfl
def mB (c:UInt8):Bool:=GH c||(!decide (AJ c<97)&&!decide (AJ c>122))
def ACM (k:Unit->Option Bool): ∀l:B8,Hz N k l=if l.all mB=true then k ()else some false|[]=>by grind[Hz]|c::l=>by rw[Hz];dsimp only[AB];rw[YQ,aa,ACM k l,aQ];unfold mB;cases GH c<;>cases decide (AJ c<97)<;>cases decide (AJ c>122)<;>simp
def ABj (k:Unit->Option Bool): ∀l:B8,Fx N k l=if l.all mB=true then k ()else some false|[]=>by grind[Fx]|c::l=>by rw[Fx];dsimp only[AB];rw[VO,aa,ABj k l,aQ];unfold mB;cases GH c<;>cases decide (AJ c<97)<;>cases decide (AJ c>122)<;>simp
def ABd (l:B8):Bool:=l.all mB&&!(l==[])
def AlL (l:B8) (hb:l.length<=1000000):Qy N l=some (ABd l):=by unfold Qy ABd;rw[AB,A9 fH,ACM];cases l.all mB<;>simp
def Ahe (l:B8) (hb:l.length<=1000000):OD N l=some (ABd l):=by unfold OD ABd;rw[AB,A9 fH,ABj];cases l.all mB<;>simp
def ApT (l:B8) (c:UInt8) (hb:l.length<=1000000):strings_HasSuffix N l [c]=some (l.getLast?==some c):=by
 unfold strings_HasSuffix EI;rcases dk l with rfl|⟨l,x,rfl⟩;·rfl
 ·rw[fo]at *;have hb':l.length<=1000000:=by grind
  rw[an (by grind),show wr .i64 (((l++[x]).length:Int)-(([c]:B8).length:Int))=((l.length:Nat):Int) by grind[Ai,List.length_append,List.length_cons,List.length_nil],Be fI,aa,aa,cX];simp
def O8:ApiDID:=⟨[],[]⟩
def AIE (l:B8):Bool:=l==[]||l.getLast?==some 58
def Ou (s:B8):ApiDID×Int:=if s.length>4096 then(O8,5)else if preB [100,105,100,58] s=false then(O8,60)else if(Af 58 (s.drop 4)).2.2=false then(O8,6)else if ABd (Af 58 (s.drop 4)).1=false then(O8,100)else if((Qv (Af 58 (s.drop 4)).2.1).2 !=0)=true then(O8,(Qv (Af 58 (s.drop 4)).2.1).2)else if AIE (Qv (Af 58 (s.drop 4)).2.1).1=true then(O8,3)else(⟨(Af 58 (s.drop 4)).1,(Qv (Af 58 (s.drop 4)).2.1).1⟩,0)
def Ar6 (u:Bool×UInt8):(guC u).length<=3:=by grind[Og,guC]
def AYV: ∀(k:Nat) (t:B8) (us:List (Bool×UInt8)),FN k t=some us->us.length<=t.length
 |0,_,_,h=>by cases h
 |k+1,[],us,h=>by grind[FN]
 |k+1,c::t,us,h=>by
  rw[FN]at h;split at h;·cases he:NU t with|none=>grind|some x=>rw[he]at h;simp only[aV]at h;obtain⟨vs,hv,rfl⟩:=h;have:=AYV k _ vs hv;grind
  ·simp only[aV]at h;obtain⟨vs,hv,rfl⟩:=h;have:=AYV k _ vs hv;grind
def Si{α:Type}{f:α->B8}{n:Nat} (h: ∀x,(f x).length<=n): ∀l:List α,(l.flatMap f).length<=n * l.length|[]=>by simp|x::l=>by have:=Si h l;have:=h x;rw[aR,ah,ae,Nat.mul_succ];omega
theorem ASn (s:B8):(Qv s).1.length<=3 * s.length:=by
 unfold Qv;cases hu:unS s with
 |none=>simp
 |some us=>
  simp only;split;·have h1:=Si Ar6 us;have h2:=AYV _ s us hu;grind
  ·simp
def Aam (s:B8) (hb:s.length<=1000000) (hN:20000<=N):JH N s=some (Ou s):=by
 unfold JH Ou;by_cases h1:s.length>4096;·rw[an (by grind),an h1];rfl
 rw[aj (by grind),aj h1,AJO,aa];cases hp:preB [100,105,100,58] s;·rfl
 have hl:=JY 58 (s.drop 4);rw[aP]at hl;simp only[aB,ae,ap,bI,Nat.reduceAdd];rw[aj (by decide: ¬(true=false)),RJ 58 _ (by grind),aa];cases hc:(Af 58 (s.drop 4)).2.2;·rfl
 simp only[aB];rw[aj (by decide: ¬(true=false)),AlL _ fH,aa];cases hm:ABd (Af 58 (s.drop 4)).1;·rfl
 simp only[aB];have hcl:=ASn (Af 58 (s.drop 4)).2.1;obtain⟨v,e1,e2⟩:=ArB (N:=N) (Af 58 (s.drop 4)).2.1 fH hN;rw[aj (by decide: ¬(true=false)),e1,aa];by_cases h5:((Qv (Af 58 (s.drop 4)).2.1).2 !=0)=true;·rw[an h5,an h5];rfl
 rw[aj h5,aj h5];have hv:=e2 (by grind);subst hv;dsimp only[AB];rw[ApT _ _ fH,aa];unfold AIE;cases ((Qv (Af 58 (s.drop 4)).2.1).1==[])<;>cases ((Qv (Af 58 (s.drop 4)).2.1).1.getLast?==some 58)<;>rfl
def AEo{l:B8} (hb:l.length<=1000000) (k:B8->Option B8): ∀(t pre out:B8),l=pre++t->out.length<=3 * pre.length->EK N l k t (pre.length:Int) out=k (out++t.flatMap IX)
 |[],pre,out,h,_=>by grind[EK]
 |c::t,pre,out,h,ho=>by
  have hl:=br List.length h;simp only[ah,ae]at hl;have hsub:sub l (pre.length:Int) ((pre.length:Int)+1)=some [c]:=by rw[show(pre.length:Int)+1=((pre.length+1:Nat):Int) by omega,A8 l _ _ fH fH,h,cX];simp
  have hel:=Og c;have nxt: ∀x:B8,x=IX c->EK N l k t ((pre.length:Int)+1) (out++x)=k (out++(c::t).flatMap IX):=λx AX=>by have:=AEo hb k t (pre++[c]) (out++x) (by grind) (by grind);grind
  rw[EK];dsimp only[AB];rw[AE8,aa,hsub,aa,UA,aa];cases hp:Es c;·rw[aj fJ,A9 (by grind[NZ])];grind[IX]
  ·rw[an rfl,A9 (by grind)];grind[IX]
def ATq (l:B8) (hb:l.length<=1000000):Kh N l=some (l.flatMap IX):=by unfold Kh;rw[AB,A9 fH];have:=AEo (N:=N) hb (λj1=>some j1) l [] [] rfl fI;grind
def rd1 (hN:20000<=N) (k:Unit->Option (ApiDID×Int)): ∀ps:List B8,EU N k ps=if ps.all (Vn N)=true then k ()else some (O8,2)
 |[]=>by grind[EU]
 |p::ps=>by
  rw[EU,Qz _ hN,aa,rd1 hN k ps,aQ];unfold Vn;cases h:((Ao N p).2==0);·rw[an (by grind)];rfl
  simp_all
theorem rd3 (k:Unit->Option (ApiDID×Int)): ∀l:B8,EW N k l=if l.all XU=true then k ()else some (O8,1)|[]=>by grind[EW]|c::l=>by rw[EW];dsimp only[AB];rw[AE8,aa,rd3 k l,aQ,bne,TR];unfold XU;have e:(c==37)=decide (c=37):=rfl;rw[e];cases Es c<;>cases decide (c=37)<;>simp[O8]
def Akn (p:B8):(Nl N p).length<=3 * p.length:=by have h1:=Si (λx=>(Og x).1) (Ao N p).1;grind[NA,Nl]
def rd2 (hN:20000<=N) (k:B8->Option (ApiDID×Int)): ∀(ps:List B8) (i:Int) (acc:B8),0<=i->(∀p,p∈ps->p.length<=20000)->acc.length+60001 * ps.length<=1000000000->DF N k ps i acc=if(ps.all λp=>p.all XU)=true then k (acc++jn N (decide (i=0)) ps)else some (O8,1)
 |[],i,acc,_,_,_=>by rw[DF];cases decide (i=0)<;>simp[jn]
 |p::ps,i,acc,hi,hp,ha=>by
  have hpl:=hp p fI;have hpt:=Akn (N:=N) p;simp only[ae,Nat.mul_succ]at ha;have ih:=λacc' h'=>rd2 hN k ps (i+1) acc' fH (λq hq=>hp q (by grind)) h';have hd1:decide (i+1=0)=false:=aJ fH;rw[hd1]at ih;rw[DF];dsimp only[AB];rw[A9 fH,rd3,Qz _ hN,aa,aQ];cases h1:p.all XU;·rfl
  rw[an rfl,bQ];have hdl:=NA (N:=N) p;rw[ATq _ fH,aa];change (if decide (i>0)=true then grd _ (grd (AL ((acc++[58]).length+(Nl N p).length)) (DF N k ps (i+1) (acc++[58]++Nl N p)))else grd (AL (acc.length+(Nl N p).length)) (DF N k ps (i+1) (acc++Nl N p)))=_;by_cases h0:i=0;·rw[aj (by grind),aE h0,A9 fH,ih _ (by grind)];grind[jn]
  ·rw[an (by grind),aJ h0,A9 (by grind),A9 (by grind),ih _ (by grind)];grind[jn]
def AnZ (b:UInt8):(IX b).getLast?≠some 58:=by have key:=Bt (f:=λn=>decide ((IX (UInt8.ofNat n)).getLast?≠some 58)) (g:=λ_=>true) (by kernel_rfl) b;simp_all
def AEg (p:B8):(Nl N p).getLast?≠some 58:=by
 unfold Nl;generalize (Ao N p).1=d;rcases dk d with rfl|⟨d,x,rfl⟩;·simp
 ·rw[fo];have h1:=(Og x).2;rw[cV,List.flatMap_singleton,ck];cases h:(IX x).getLast? with|none=>rw[List.getLast?_eq_none_iff]at h;rw[h]at h1;simp at h1|some y=>simp only[cZ];rw[<-h];exact AnZ x
def AWZ: ∀(ps:List B8) (f:Bool) (hne:ps≠ []),AIE (jn N f ps)=(Nl N (ps.getLast hne)==[])
 |[],_,h=>absurd rfl h
 |[p],true,_=>by have:=AEg (N:=N) p;simp_all[jn,AIE,Nl]
 |[p],false,_=>by have:=AEg (N:=N) p;simp only[jn,bo,List.getLast_singleton,AIE];grind
 |p::q::ps,f,h=>by
  have ih:=AWZ (q::ps) false fI;rw[List.getLast_cons fI,<-ih];obtain⟨z,zs,hz⟩: ∃z zs,jn N false (q::ps)=z::zs:=⟨58,Nl N q++jn N false ps,rfl⟩;cases f;·rw[show jn N false (p::q::ps)=58::(Nl N p++jn N false (q::ps))from rfl,hz];unfold AIE;grind
  ·rw[show jn N true (p::q::ps)=Nl N p++jn N false (q::ps)from rfl,hz];unfold AIE;grind
def AYj (c:UInt8): ∀(n:Nat) (l:B8),l.length<=n->((AV c l).map List.length).sum+(AV c l).length=l.length+1:=by intro n;induction n with|zero=>intro l hl;have:l=[]:=bw fH;subst this;rfl|succ n ih=>intro l hl;cases l with|nil=>rfl|cons x t=>grind[AV,absurd]
def AEs{l:List B8} (hne:l≠ []) (hb:l.length<=1000000):idx l (wr .i64 ((l.length:Int)-1))=some (l.getLast hne):=by have:0<l.length:=bR.2 hne;rw[show wr .i64 ((l.length:Int)-1)=((l.length-1:Nat):Int) by rw[Ai fH];omega,Ea,<-dA,cc hne]
def ARi{p:B8} (hb:p.length<=16000) (hN:20000<=N) (hk:Vn N p=true):(Nl N p==[])=(p==[]):=by
 unfold Vn at hk;rw[Vz hb hN]at hk;cases hu:unS p with
 |none=>grind
 | some u=>
  have hn:=AwX hu;unfold Nl;rw[Vz hb hN,hu];cases u with
  |nil=>simp_all
  |cons v u=>
   have hp:p≠ []:=λe=>by grind
   have h1:=(Og v.2).2;cases hq:IX v.2 with|nil=>grind|cons y ys=>simp_all
def AZc (s:B8) (hb:s.length<=1000000) (hN:20000<=N):CZ N s=some (Ou s):=by
 unfold CZ Ou;by_cases h1:s.length>4096;·rw[an (by grind),an h1];rfl
 rw[aj (by grind),aj h1,VC,aa];cases hp:preB [100,105,100,58] s;·rfl
 have h4:=QO hp;simp only[ae,ap]at h4;have hl:=JY 58 (s.drop 4);have hdl:(s.drop 4).length<=1000000:=by grind
 rw[aP]at hl;simp only[aB];rw[aj (by decide: ¬(true=false)),show sub s 4 (s.length:Int)=some (s.drop 4)from Be (n:=4) fH,aa,Awo 58 _ hdl,aa,ACq,ALM];cases hc:(s.drop 4).contains 58;·rfl
 obtain⟨s1,s2⟩:=ACk hc hdl;simp only[bE,aq,az];rw[aj (by decide: ¬(true=false)),s1,aa,Ahe _ fH,aa];cases hm:ABd (Af 58 (s.drop 4)).1;·rfl
 simp only[aB];rw[aj (by decide: ¬(true=false)),s2,aa,show(58:Int)=AJ 58 from rfl,Qa _ 58 fH,aa];generalize (Af 58 (s.drop 4)).1=m at *;have hd:(Af 58 (s.drop 4)).2.1.length<=4096:=fH;generalize (Af 58 (s.drop 4)).2.1=d at *;have hsl:=IZ 58 d;have hsp:=JO 58 d;have hne:=Fg 58 d;obtain⟨r1,r2⟩:=ALO (N:=N) hN d.length d (av _) fH;dsimp only[AB];rw[A9 fH,rd1 hN];unfold Qv;cases hu:unS d with
 |none=>grind
 |some us=>
  obtain⟨q1,q2,q3⟩:=r2 us hu;simp only;rw[q1,an rfl,A9 fH,rd2 hN _ _ 0 [] fH (λp h=>by grind) (by grind),q2];cases hk:us.all Vf;·rfl
  simp only[aB];rw[aj fJ,bm];simp only[ft];rw[q3 hk,AEs hne fH,aa];have hlast:Vn N ((AV 58 d).getLast hne)=true:=aL.1 q1 _ (eY hne);have hll:((AV 58 d).getLast hne).length<=16000:=by grind
  have he:=AWZ (N:=N) (AV 58 d) true hne;rw[q3 hk,ARi hll hN hlast]at he;rw[he];cases ((AV 58 d).getLast hne==[])<;>rfl
def HV (d:ApiDID):B8:=(([100,105,100,58]++d.method)++[58])++d.iD
def YO (d:ApiDID) (h:d.method.length<=1000000/\d.iD.length<=1000000):Cn N d=some (HV d):=by grind[Cn,HV,A9]
def XL (d:ApiDID) (h:d.method.length<=1000000/\d.iD.length<=1000000):CV N d=some (HV d):=by grind[CV,HV,A9]
def ASW (s:B8):(Ou s).1.method.length<=4096/\(Ou s).1.iD.length<=12288:=by grind[JY,ASn,Af,List.length_drop,Ou,O8]
def Kq:B8:=[119,101,98]
def hp0:ApiHostPort:=⟨[],0⟩
def DI (N:Nat) (d:ApiDID):ApiHostPort×Int:=if(d.method==Kq)=false then(hp0,100)else if((Ou (HV d)).2 !=0)=true then(hp0,(Ou (HV d)).2)else hpS (Ao N (Af 58 d.iD).1).1
theorem YW (i:B8):preB [100,105,100,58] (HV ⟨Kq,i⟩)=true/\Af 58 ((HV ⟨Kq,i⟩).drop 4)=(Kq,i,true)/\(HV ⟨Kq,i⟩).length=i.length+8:=by have h4:(HV ⟨Kq,i⟩).drop 4=Kq++58::i:=rfl;refine⟨rfl,?_,by grind[HV,Kq]⟩;rw[h4,Hf fI];rfl
def Ah1{i:B8} (h:(Ou (HV ⟨Kq,i⟩)).2=0):(Qv i).2=0/\i.length<=4088:=by
 obtain⟨h1,h2,h3⟩:=YW i;unfold Ou at h;rw[h1,h2]at h;split at h;·cases h
 rename_i hl;rw[h3]at hl;rw[aj fJ]at h;simp only[dJ,az]at h;rw[aj fJ]at h;grind
def AvF{i:B8} (h:(Qv i).2=0): ∃us,unS i=some us/\us.all Vf=true:=by
 unfold Qv at h;cases hu:unS i with
 |none=>grind
 |some us=>
  rw[hu]at h;simp only at h;split at h;·rename_i hk;exact⟨us,rfl,hk⟩
  ·cases h
def YM (c:UInt8) (l:B8):(AV c l)[0]?=some (Af c l).1:=by rw[MP];split<;>rfl
def AbR{i:B8} (h:(Qv i).2=0) (hb:i.length<=16000) (hN:20000<=N):((Ao N (Af 58 i).1).2 !=0)=false:=by obtain⟨us,hu,_⟩:=AvF h;obtain⟨_,r2⟩:=ALO (N:=N) hN i.length i (av _) hb;obtain⟨q1,_⟩:=r2 us hu;have hm:(Af 58 i).1∈AV 58 i:=d7 (YM 58 i);grind[Vn,bne]
def AFT (d:ApiDID) (hm:d.method.length<=4096) (hi:d.iD.length<=16000) (hN:20000<=N):IL N d=some (DI N d):=by
 have hc:=JY 58 d.iD;have hdl:=NA (N:=N) (Af 58 d.iD).1;have hfl:(HV d).length<=100000:=by unfold HV;simp;omega
 unfold IL DI;change (if(d.method==Kq)=true then _ else _)=_;cases hw:(d.method==Kq);·rfl
 rw[an rfl,aj (by decide: ¬(true=false)),YO d fH,aa,Aam _ fH hN,aa];by_cases h:((Ou (HV d)).2 !=0)=true;·rw[an h,an h];rfl
 have hd:d=⟨Kq,d.iD⟩:=by have:=bf.1 hw;cases d;simp only at this;rw[this]
 have h0:(Ou (HV ⟨Kq,d.iD⟩)).2=0:=by rw[<-hd];simpa using h
 obtain⟨k1,k2⟩:=Ah1 h0;rw[aj h,aj h,RJ 58 _ fH,aa,Ta _ hN,aa,AbR k1 fH hN,aj fJ,AkQ _ fH fH,aa]
def AFP (d:ApiDID) (hm:d.method.length<=4096) (hi:d.iD.length<=16000) (hN:20000<=N):Nb N d=some (if(d.method==Kq)=false then([],hp0,100)else if((Ou (HV d)).2 !=0)=true then([],hp0,(Ou (HV d)).2)else(AV 58 d.iD,(DI N d).1,(DI N d).2)):=by
 have hc:=JY 58 d.iD;have hdl:=NA (N:=N) (Af 58 d.iD).1;have hfl:(HV d).length<=100000:=by unfold HV;simp;omega
 unfold Nb;change (if(d.method==Kq)=true then _ else _)=_;cases hw:(d.method==Kq);·rfl
 rw[an rfl,aj (by decide: ¬(true=false)),XL d fH,aa,AZc _ fH hN,aa];by_cases h:((Ou (HV d)).2 !=0)=true;·rw[an h,an h];rfl
 rw[aj h,aj h,show(58:Int)=AJ 58 from rfl,Qa _ 58 fH,aa,show(0:Int)=((0:Nat):Int)from rfl,Ea,YM,aa,Qz _ hN,aa,Alr _ fH,aa];unfold DI;rw[aj (by rw[hw];decide),aj h]
def AgG (d:ApiDID) (hm:d.method.length<=4096) (hi:d.iD.length<=16000) (hN:20000<=N):KM N d=some (DI N d):=by
 unfold KM;rw[AFP d hm hi hN,aa];unfold DI;split;·rfl
 split;·rfl
 ·rfl
def upT (N:Nat) (x:B8):B8:=47::(Ao N x).1.flatMap (P8 [])
def upB (N:Nat) (x:B8):Bool:=(Ao N x).1==[]||((Ao N x).1==[46]||(Ao N x).1==[46,46])
def APv{s:B8} (hN:20000<=N) (h:((Ao N s).2 !=0)=true):(Ao N s).1=[]:=by
 unfold Ao at *;split;·rfl
 ·rename_i hs;rw[aj hs,ZJ N s [] fH]at h;grind[ZJ,FN,absurd]
def Ayb (e:Int) (x:B8) (hb:x.length<=100000) (hN:20000<=N):Jn N ⟨e⟩ x=some (upT N x,⟨if upB N x=true then 110 else e⟩):=by
 have hd:=NA (N:=N) x;have he:=YF [] (Ao N x).1;have hg: ∀v:Option (B8×DidwebMapper),grd (AL (([47]:B8).length+((Ao N x).1.flatMap (P8 [])).length)) v=v:=λv=>A9 (by simp only[ae,ap];omega);unfold Jn upB upT;rw[Ta _ hN,aa];dsimp only[AB];rw[ACl _ _ fH];simp only[aa,hg];by_cases h:((Ao N x).2 !=0)=true;·rw[an h,APv hN h];rfl
 ·rw[aj h];cases ((Ao N x).1==[])<;>cases ((Ao N x).1==[46])<;>cases ((Ao N x).1==[46,46])<;>rfl
end
section
variable{N:Nat}
def Alv (l:B8):Bool:=!l.isEmpty&&l.all GH
def AcD (l:B8):Int:=if((Vp 4611686018427387904 l).2 !=0)=true then 4611686018427387904 else(Vp 4611686018427387904 l).1
def AAY (v:B8):Int×Bool:=if((AV 44 v).all λx=>trimB x==trimB (Af 44 v).1&&Alv (trimB (Af 44 v).1))=true then(AcD (trimB (Af 44 v).1),true)else(0,false)
def ABZ (c:UInt8): ∀(n:Nat) (l:B8),l.length=n->∀x,x∈AV c l->x.length<=l.length:=by
 intro n;induction n using Nat.strongRecOn with
 | _ n ih=>
  intro l hl x hx;rw[MP]at hx;have h1:=JY c l;split at hx
  ·rename_i h2;rcases aM.1 hx with rfl|hx;·exact h1.1
   ·have h3:=AQM h2;have:=ih _ fH (Af c l).2.1 rfl x hx;omega
  ·rw[aY.1 hx];exact h1.1
def AEP{F:B8} (hF:F.length<=1000000) (k6:Unit->Option (Int×Bool)) (hN:1000010<=N): ∀xs:List B8,(∀x,x∈xs->x.length<=1000000)->Ii N F k6 xs=if(xs.all λx=>trimB x==F&&Alv F)=true then k6 ()else some (0,false)
 |[],_=>rfl
 | x::xs,h=>by
  have hx:=h x (.head _);rw[Ii,AB0 fH fH,aQ];simp only[AB,aa];cases h1:trimB x==F;·rfl
  ·simp only[aB,bQ];rw[RD _ fH,aa,AEP hF k6 hN xs λy hy=>h y (.tail _ hy)];unfold Alv;cases (!F.isEmpty&&F.all GH);·rfl
   ·rfl
def AFQ{F:B8} (k5:List B8->Option (Int×Bool)) (hN:1000010<=N): ∀(suf pre:List B8),(∀x,x∈suf->x.length<=1000000)->(pre++suf.map trimB).head?=some F->F3 N k5 suf (pre.length:Int) (pre++suf)=if(suf.all λx=>trimB x==F&&Alv F)=true then k5 (pre++suf.map trimB)else some (0,false)
 |[],pre,_,_=>by rw[F3];rfl
 |x::t,pre,h,hF=>by
  have hx:=h x (.head _);have hset:(pre++x::t).set ((pre.length:Nat):Int).toNat (trimB x)=(pre++[trimB x])++t:=fI;have hi0:idx ((pre++[trimB x])++t) 0=some F:=by rw[show(0:Int)=((0:Nat):Int)from rfl,Ea];cases pre with|nil=>simpa using hF|cons y pre=>simpa using hF
  have hii:idx ((pre++[trimB x])++t) (pre.length:Int)=some (trimB x):=by rw[aH];exact TI pre t (trimB x)
  have ih:=AFQ (F:=F) k5 hN t (pre++[trimB x]) (λy hy=>h y (.tail _ hy)) (by simpa using hF);rw[ah,bh]at ih;have htl:=XZ x;rw[F3,TI,aa,AUX fH fH,aa];simp only[AB,hset,hi0,hii,aa];rw[WP _ fH,aa,aQ,show(pre.length:Int)+1=((pre.length+1:Nat):Int) by omega,ih];have hm:pre++[trimB x]++t.map trimB=pre++(x::t).map trimB:=fI;rw[hm];cases h1:trimB x==F;·cases (!(trimB x).isEmpty&&(trimB x).all GH)<;>rfl
  ·rw[bf.1 h1];unfold Alv;cases (!F.isEmpty&&F.all GH)<;>rfl
def AsV{v:B8} (hb:v.length<=1000000) (hN:1000010<=N):Pt N v=some (AAY v):=by
 unfold Pt;have hc:=JY 44 v;have ht:=XZ (Af 44 v).1;have hM: ∀l:B8,l.length<=1000000->JP N l 4611686018427387904=some (Vp 4611686018427387904 l):=λl hl=>AEQ (m:=4611686018427387904) fH l fH;rw[RJ _ _ fH,aa,AB0 fH fH,aa,U7 _ _ hb];simp only[AB,aa];have hs: ∀x,x∈AV 44 v->x.length<=1000000:=λx hx=>by have:=ABZ 44 _ v rfl x hx;omega
 rw[A9 (by have:=IZ 44 v;omega),AEP fH _ hN _ hs,hM _ fH];unfold AAY AcD;split;·rw[aa];generalize Vp 4611686018427387904 _=P;cases (P.2 !=0)<;>rfl
 ·rfl
def AZh{v:B8} (hb:v.length<=1000000) (hN:1000010<=N):Ma N v=some (AAY v):=by
 unfold Ma;have hc:=JY 44 v;have ht:=XZ (Af 44 v).1;have hM: ∀l:B8,l.length<=1000000->I1 N l 4611686018427387904=some (Vp 4611686018427387904 l):=λl hl=>by unfold I1;rw[show(4611686018427387904:Int)=((4611686018427387904:Nat):Int)from rfl,ACB fH fH _ fH,aa]
 have hsp:AXr (EZ N v 44)=some (AV 44 v):=Qa v 44 hb;have hs: ∀x,x∈AV 44 v->x.length<=1000000:=λx hx=>by have:=ABZ 44 _ v rfl x hx;omega
 have hh:((AV 44 v).map trimB).head?=some (trimB (Af 44 v).1):=by have:=YM 44 v;rw[<-ff]at this;rw[List.head?_map,this];rfl
 have hl:=AFQ (N:=N) (F:=trimB (Af 44 v).1) (λj4=>(idx j4 0).bind λx20=>(I1 N x20 4611686018427387904).bind λy21=>if(y21.2 !=0)=true then some (4611686018427387904,true)else some (y21.1,true)) hN (AV 44 v) [] hs hh;rw[hsp,aa];simp only[AB];rw[A9 (by have:=IZ 44 v;omega)];simp only[ap,bm]at hl;rw[show((0:Nat):Int)=0 from rfl]at hl;refine hl.trans ?_;have hi:idx ((AV 44 v).map trimB) 0=some (trimB (Af 44 v).1):=by rw[show(0:Int)=((0:Nat):Int)from rfl,Ea,<-ff];exact hh
 rw[hi,aa,hM _ fH,aa];unfold AAY AcD;split;·generalize Vp 4611686018427387904 _=P;cases (P.2 !=0)<;>rfl
 ·rfl
def Ajn (m:Nat) (l:B8):0<=(Vp m l).1/\(Vp m l).1<=m:=by
 unfold Vp;split;·exact⟨bD 0,fH⟩
 ·split
  ·split;·exact⟨by simp only;omega,by simp only;omega⟩
   ·exact⟨bD 0,fH⟩
  ·exact⟨bD 0,fH⟩
def AmE (l:B8):0<=AcD l/\AcD l<=4611686018427387904:=by unfold AcD;have:=Ajn 4611686018427387904 l;split<;>omega
def AnS (v:B8):0<=(AAY v).1/\(AAY v).1<=4611686018427387904:=by
 unfold AAY;split;·exact AmE _
 ·exact⟨bD 0,(by show(0:Int)<=4611686018427387904;decide)⟩
def ATj (name:B8): ∀fs:List ApiField,Q7 (GR name fs)<=ED fs
 |[]=>av _
 |f::fs=>by
  have ih:=ATj name fs;unfold GR Q7 ED at *;rw[dx];split;·simp only[aF,cw];omega
  ·simp only[aF,cw];omega
def AQP{fs:List ApiField}{f:ApiField} (h:f∈fs):f.name.length+f.value.length<=ED fs:=by
 induction fs with
 |nil=>cases h
 |cons g fs ih=>
  unfold ED at *;rcases aM.1 h with rfl|h;·simp only[aF,cw];omega
  ·have:=ih h;simp only[aF,cw];omega
def Aap{h:ApiHead} (hh:Fok 16384 h.fields):hdB h:=⟨by have:=hh.1;omega,λf hf=>by have:=AQP hf;have:=hh.2;omega⟩
def AkE{h:ApiHead} (hh:Fok 16384 h.fields) (name:B8):(ADu h name).1.length<=20000:=by have h1:=ATj name h.fields;have h2:=Afj [44,32] (GR name h.fields);have h3:=AQ8 name h.fields;obtain⟨h4,h5⟩:=hh;unfold ADu;simp only[ae,ap]at h2⊢;omega
set_option maxHeartbeats 4000000 in theorem AZE{h:ApiHead} (hh:Fok 16384 h.fields){a:B8} (hb:a.length<=1000000) (hN:1000010<=N){lim:Int} (hl9:lim<=9223372036854775807):SX N h a lim=HY N h a lim/\∃r,HY N h a lim=some r/\r.1.length<=a.length/\(r.2=0\/r.2=4\/r.2=142\/r.2=190\/r.2=191):=by
 unfold SX HY;by_cases h0:lim<0;·rw[an (aE h0),an (aE h0)];exact⟨rfl,_,rfl,aK _,.inr (.inl rfl)⟩
 ·have hd:=Aap hh;have hg1:=AkE hh [116,114,97,110,115,102,101,114,45,101,110,99,111,100,105,110,103];have hg2:=AkE hh [99,111,110,116,101,110,116,45,108,101,110,103,116,104];have hz:decide (lim<0)=false:=aJ h0;simp only[hz,aq,az];rw[AN1 hd _ fJ,AN1 hd _ fJ,Rl hd _ fJ,Rl hd _ fJ];generalize ADu h [116,114,97,110,115,102,101,114,45,101,110,99,111,100,105,110,103]=T at *;generalize ADu h [99,111,110,116,101,110,116,45,108,101,110,103,116,104]=L at *;obtain⟨r,c1,c2,c3,c4,c5⟩:=AHr hb hN (lim:=lim) fH;have hlr:=AnS L.1;have wl:wr .u64 lim=lim:=FV fH;have wa:wr .u64 (a.length:Int)=(a.length:Int):=FV fH;simp only[AB,aa,lower_eq _ (show T.1.length<=2^60 by omega),QY _ (show T.1.length<=2^60 by omega),AsV (show L.1.length<=1000000 by omega) hN,AZh (show L.1.length<=1000000 by omega) hN,c1,c2,wl,wa];generalize AAY L.1=Z at *;have fin: ∃q:B8×Int,((if decide (Z.1>lim)=true then some (([]:B8),(142:Int))else if decide ((a.length:Int)<Z.1)=true then some ([],191)else(sub a 0 Z.1).bind λx19=>some (x19,0))=some q)/\q.1.length<=a.length/\(q.2=0\/q.2=4\/q.2=142\/q.2=190\/q.2=191):=by
   by_cases e1:Z.1>lim;·rw[an (aE e1)];exact⟨_,rfl,aK _,.inr (.inr (.inl rfl))⟩
   ·rw[aj (by simp only[au];exact e1)];by_cases e2:(a.length:Int)<Z.1;·rw[an (aE e2)];exact⟨_,rfl,aK _,.inr (.inr (.inr (.inr rfl)))⟩
    ·obtain⟨n,hn⟩: ∃n:Nat,Z.1=(n:Int):=⟨Z.1.toNat,fH⟩;have hs:=A8 a 0 n fH fH;rw[aO,bB,show((0:Nat):Int)=0 from rfl]at hs;rw[aj (by simp only[au];exact e2),hn,hs];exact⟨_,rfl,by simp only[bg];omega,.inl rfl⟩
  have fin2: ∃q:B8×Int,((if decide ((a.length:Int)>lim)=true then some (([]:B8),(142:Int))else some (a,0))=some q)/\q.1.length<=a.length/\(q.2=0\/q.2=4\/q.2=142\/q.2=190\/q.2=191):=by
   split;·exact⟨_,rfl,aK _,.inr (.inr (.inl rfl))⟩
   ·exact⟨_,rfl,av _,.inl rfl⟩
  have bare: ∃q:B8×Int,some (([]:B8),(0:Int))=some q/\q.1.length<=a.length/\(q.2=0\/q.2=4\/q.2=142\/q.2=190\/q.2=191):=⟨_,rfl,aK _,.inl rfl⟩;have bad: ∃q:B8×Int,some (([]:B8),(190:Int))=some q/\q.1.length<=a.length/\(q.2=0\/q.2=4\/q.2=142\/q.2=190\/q.2=191):=⟨_,rfl,aK _,.inr (.inr (.inr (.inl rfl)))⟩;have ch:(if(r.2 !=0)=true then some (([]:B8),r.2)else some (r.1,0))=some (r.1,r.2):=by
   by_cases e:r.2=0;·rw[aj (by rw[e];decide),e]
   ·rw[an (by simpa using e),c5 e]
  obtain⟨q1,f1,f2,f3⟩:=fin;obtain⟨q2,g1,g2,g3⟩:=fin2;have rok:r.2=0\/r.2=4\/r.2=142\/r.2=190\/r.2=191:=fH;simp only[f1,g1,ch];generalize decide (h.status>=100)=b1;generalize decide (h.status<=199)=b2;generalize (h.status==204)=b3;generalize (h.status==304)=b4;generalize (List.map FP T.1==[99,104,117,110,107,101,100])=b5;generalize T.2=t2;generalize L.2=l2;generalize Z.2=z2;have e1: ∃q:B8×Int,some q1=some q/\q.1.length<=a.length/\(q.2=0\/q.2=4\/q.2=142\/q.2=190\/q.2=191):=⟨_,rfl,f2,f3⟩;have e2: ∃q:B8×Int,some q2=some q/\q.1.length<=a.length/\(q.2=0\/q.2=4\/q.2=142\/q.2=190\/q.2=191):=⟨_,rfl,g2,g3⟩;have e3: ∃q:B8×Int,some (r.1,r.2)=some q/\q.1.length<=a.length/\(q.2=0\/q.2=4\/q.2=142\/q.2=190\/q.2=191):=⟨_,rfl,c3,rok⟩;cases t2
  ·cases l2;·cases b1<;>cases b2<;>cases b3<;>cases b4<;>simp only[aB,az,aq,dR]<;>first|exact bare|exact e2
   ·cases z2<;>cases b1<;>cases b2<;>cases b3<;>cases b4<;>simp only[aB,az,aq,dR]<;>first|exact bare|exact bad|exact e1
  ·cases l2;·cases b5<;>cases b1<;>cases b2<;>cases b3<;>cases b4<;>simp only[aB,az,aq,bE,bA,dR]<;>first|exact bare|exact bad|exact e3
   ·cases b1<;>cases b2<;>cases b3<;>cases b4<;>simp only[aB,az,aq,dR]<;>first|exact bare|exact bad
end
section
variable{N:Nat}
def AIv (x:B8):(upT N x).length<=3 * x.length+1:=by grind[NA,YF,Ao,upT,List.length_cons]
def wS (xs:List B8):Nat:=(xs.map List.length).sum+xs.length
theorem Ra (x:B8) (xs:List B8):wS (x::xs)=x.length+1+wS xs:=by grind[wS]
def YJ (xs:List B8):wS (xs.drop 1)<=wS xs:=by cases xs with|nil=>simp|cons x xs=>rw[Ra];simp only[dD,aO];omega
def U3 (c:UInt8) (l:B8):wS (AV c l)=l.length+1:=AYj c _ l (av _)
def AA4: ∀xs:List B8,(xs.flatMap (upT N)).length<=3 * wS xs|[]=>by simp|x::xs=>by have:=AIv (N:=N) x;have:=AA4 xs;rw[aR,ah,Ra];omega
def Xk (hN:20000<=N) (k:Bool×B8×DidwebMapper->Option (B8×DidwebMapper)): ∀(xs:List B8) (d:Bool) (b:B8) (e:Int),b.length+3 * wS xs<=300000->Az N k xs d b ⟨e⟩=k (d||!xs.isEmpty,b++xs.flatMap (upT N),⟨if xs.any (upB N)=true then 110 else e⟩)|[],d,b,e,_=>by rw[Az];simp|x::xs,d,b,e,h=>by have hu:=AIv (N:=N) x;rw[Ra]at h;rw[Az,Ayb _ _ fH hN,aa];dsimp only;rw[QC _ _ _ fH,aa];dsimp only;rw[Xk hN k xs _ _ _ (by rw[ah];omega),aR,bT,aH];cases upB N x<;>cases xs.any (upB N)<;>simp
def AYJ (xs:List B8) (e:Int) (h:wS xs<=100000) (hN:20000<=N):DL N xs ⟨e⟩=some (xs.flatMap (upT N),⟨if xs.any (upB N)=true then 110 else e⟩):=by
 unfold DL;dsimp only[AB];have:xs.length<=wS xs:=by unfold wS;omega
 rw[A9 fH,Xk hN _ _ _ _ _ fK];rfl
def QH:B8:=[47,46,119,101,108,108,45,107,110,111,119,110,47,100,105,100,46,106,115,111,110]
def AVy:B8:=[47,100,105,100,46,106,115,111,110]
def Kr (N:Nat) (xs:List B8):B8:=if xs=[]then QH else xs.flatMap (upT N)++AVy
def GM (h:B8) (p:Int) (path:B8):ApiURL:=⟨h,p,path,[],[],false,false⟩
def toS (N:Nat) (d:ApiDID):ApiURL×Int:=if((DI N d).2 !=0)=true then(Mf,(DI N d).2)else if((AV 58 d.iD).drop 1).any (upB N)=true then(Mf,110)else if(Im (GM (DI N d).1.host (DI N d).1.port (Kr N ((AV 58 d.iD).drop 1)))).length>4096 then(Mf,5)else(GM (DI N d).1.host (DI N d).1.port (Kr N ((AV 58 d.iD).drop 1)),0)
def UD (d:ApiDID):RI (DI N d).1.port/\(DI N d).1.host.length<=253:=by grind[DI,RI,hp0,AO3,AAz]
def ABq (xs:List B8):(Kr N xs).length<=3 * wS xs+21:=by
 have:=AA4 (N:=N) xs;unfold Kr;split;·simp[QH]
 ·simp[AVy]at *;omega
def AZU{l:List B8} (h:l≠ []) (hb:l.length<=1000000):sub l 1 (l.length:Int)=some (l.drop 1):=by have:0<l.length:=bR.2 h;rw[show(1:Int)=((1:Nat):Int)from rfl,A8 l 1 l.length fH (av _),ba fI]
def AZs (d:ApiDID) (hm:d.method.length<=4096) (hi:d.iD.length<=16000) (hN:20000<=N):ML N d=some (toS N d):=by
 have hsl:=IZ 58 d.iD;have hne:=Fg 58 d.iD;have hw:=U3 58 d.iD;have hw1:=YJ (AV 58 d.iD);obtain⟨a1,a2⟩:=UD (N:=N) d;have hpl:=ABq (N:=N) ((AV 58 d.iD).drop 1);unfold ML toS;rw[AFT d hm hi hN,aa];by_cases h:((DI N d).2 !=0)=true;·rw[an h,an h];rfl
 rw[aj h,aj h,U7 _ 58 fH];dsimp only[AB];rw[aa,AZU hne fH,aa];generalize (AV 58 d.iD).drop 1=xs at *;have fin: ∀P:B8,P.length<=1000000->((FU N (ApiURL.mk (DI N d).1.host (DI N d).1.port P [] [] false false)).bind λy12=>if(decide ((y12.length:Int)>4096))=true then(some ((ApiURL.mk [] 0 [] [] [] false false),5):Option (ApiURL×Int))else some ((ApiURL.mk (DI N d).1.host (DI N d).1.port P [] [] false false),0))=some (if(Im (GM (DI N d).1.host (DI N d).1.port P)).length>4096 then(Mf,5)else(GM (DI N d).1.host (DI N d).1.port P,0)):=by
  intro P hP;rw[Xl _ ⟨a1,by dsimp only;omega,by dsimp only;omega,fI,fI⟩ fH,aa];unfold GM;split;·rename_i AX;rw[an (by simp only[au]at AX;omega)];rfl
  ·rename_i AX;rw[aj (by simp only[au]at AX;omega)]
 have hul:=AA4 (N:=N) xs;cases xs with
 |nil=>rw[aj fJ];exact fin QH fJ
 | cons x xs=>
  rw[an fI,AYJ _ _ fH hN,aa,A9 (by simp only[ah,ae,ap];omega),A9 (by simp only[ah,ae,ap];omega)];by_cases hb:(x::xs).any (upB N)=true;·rw[an hb,an hb];rfl
  ·rw[aj hb,aj hb];dsimp only;rw[aj fJ];have e:((x::xs).flatMap (upT N)++[47])++[100,105,100,46,106,115,111,110]=Kr N (x::xs):=by unfold Kr AVy;rw[aj fI,aH];rfl
   rw[<-e]at hpl;rw[fin _ fH,e]
theorem AQ7 (hN:20000<=N) (k:B8->Option (ApiURL×Int)): ∀(xs:List B8) (acc:B8),acc.length+3 * wS xs<=300000->Gq N k xs acc=if xs.any (upB N)=true then some (Mf,110)else k (acc++xs.flatMap (upT N))|[],acc,_=>by rw[Gq];simp|x::xs,acc,h=>by have hu:=AIv (N:=N) x;have hd:=NA (N:=N) x;have he:=YF [] (Ao N x).1;rw[Ra]at h;rw[Gq,Qz _ hN,aa];dsimp only[AB];rw[ACc _ _ fI fH];have ih:=AQ7 hN k xs (acc++([47]++(Ao N x).1.flatMap (P8 []))) (by simp only[ah,ae,ap];omega);have hg: ∀v:Option (ApiURL×Int),grd (AL (([47]:B8).length+((Ao N x).1.flatMap (P8 [])).length)) v=v:=λv=>A9 (by simp only[ae,ap];omega);have hg2: ∀v:Option (ApiURL×Int),grd (AL (acc.length+(([47]:B8)++(Ao N x).1.flatMap (P8 [])).length)) v=v:=λv=>A9 (by simp only[ah,ae,ap];omega);have hup:upT N x=[47]++(Ao N x).1.flatMap (P8 []):=rfl;rw[bT,aR,hup,<-aH];rw[aa,hg,hg2,ih];unfold upB;cases ((Ao N x).1==[])<;>cases ((Ao N x).1==[46])<;>cases ((Ao N x).1==[46,46])<;>rfl
def AaB (d:ApiDID) (hm:d.method.length<=4096) (hi:d.iD.length<=16000) (hN:20000<=N):Hy N d=some (toS N d):=by
 have hsl:=IZ 58 d.iD;have hne:=Fg 58 d.iD;have hw:=U3 58 d.iD;have hw1:=YJ (AV 58 d.iD);obtain⟨a1,a2⟩:=UD (N:=N) d;have hpl:=ABq (N:=N) ((AV 58 d.iD).drop 1);unfold Hy toS;rw[AFP d hm hi hN,aa];by_cases h1:(d.method==Kq)=false
 ·have e:DI N d=(hp0,100):=by unfold DI;rw[an h1]
  rw[an h1,e];rfl
 by_cases h2:((Ou (HV d)).2 !=0)=true
 ·have e:DI N d=(hp0,(Ou (HV d)).2):=by unfold DI;rw[aj h1,an h2]
  rw[aj h1,an h2,e];dsimp only;rw[an h2,an h2];rfl
 rw[aj h1,aj h2];dsimp only;by_cases h:((DI N d).2 !=0)=true;·rw[an h,an h];rfl
 rw[aj h,aj h];dsimp only[AB];rw[AZU hne fH,aa];have hone:((((AV 58 d.iD).length:Nat):Int)==1)=decide ((AV 58 d.iD).drop 1=[]):=by
  have:0<(AV 58 d.iD).length:=bR.2 hne;by_cases hq:(AV 58 d.iD).drop 1=[];·have:=List.drop_eq_nil_iff.1 hq;rw[aE hq];simp;omega
  ·rw[aJ hq];have: ¬(AV 58 d.iD).length<=1:=λhh=>hq (List.drop_eq_nil_iff.2 hh);simp;omega
 rw[hone];generalize (AV 58 d.iD).drop 1=xs at *;have hxl:xs.length<=wS xs:=by unfold wS;omega
 have hul:=AA4 (N:=N) xs;rw[A9 fH,AQ7 hN _ _ _ fK];by_cases hb:xs.any (upB N)=true;·rw[an hb,an hb]
 rw[aj hb,aj hb,bm];have fin: ∀Q:B8,Q++AVy=Kr N xs->(grd (AL (Q.length+([47,100,105,100,46,106,115,111,110]:B8).length)) ((Cy N (ApiURL.mk (DI N d).1.host (DI N d).1.port (Q++([47,100,105,100,46,106,115,111,110]:B8)) [] [] false false)).bind λy12=>if(decide ((y12.length:Int)>4096))=true then(some ((ApiURL.mk [] 0 [] [] [] false false),5):Option (ApiURL×Int))else some ((ApiURL.mk (DI N d).1.host (DI N d).1.port (Q++([47,100,105,100,46,106,115,111,110]:B8)) [] [] false false),0)))=some (if(Im (GM (DI N d).1.host (DI N d).1.port (Kr N xs))).length>4096 then(Mf,5)else(GM (DI N d).1.host (DI N d).1.port (Kr N xs),0)):=by
  intro Q hQ;change grd _ ((Cy N (ApiURL.mk (DI N d).1.host (DI N d).1.port (Q++AVy) [] [] false false)).bind λy12=>if(decide ((y12.length:Int)>4096))=true then(some ((ApiURL.mk [] 0 [] [] [] false false),5):Option (ApiURL×Int))else some ((ApiURL.mk (DI N d).1.host (DI N d).1.port (Q++AVy) [] [] false false),0))=_;have hl:=br List.length hQ;rw[ah]at hl;rw[A9 fK,hQ,SI _ ⟨a1,by dsimp only;omega,by dsimp only;omega,fI,fI⟩ fH,aa];unfold GM;split;·rename_i AX;rw[an (by simp only[au]at AX;omega)];rfl
  ·rename_i AX;rw[aj (by simp only[au]at AX;omega)]
 by_cases hq:xs=[];·subst hq;rw[an fI];exact fin [47,46,119,101,108,108,45,107,110,111,119,110] (by unfold Kr;rw[an rfl];rfl)
 ·rw[aj (by simpa using hq)];exact fin _ (by unfold Kr;rw[aj hq])
end
end Go.VM
