import Derived.Test.YtalbfkgififmfaaGreatDoorL7
set_option linter.defProp false
set_option linter.unusedVariables false
set_option linter.unusedSimpArgs false
namespace Go.VM
section
variable{N:Nat}
def AK2 (a:AK) (u:As) (t:Int):Bool:=if a.d==u.d then if a.g==u.g then if a.target==MO u then if decide (a.from_<=t)then if a.until_==0 then true else decide (a.until_>t)else false else false else false else false
def AaS (a:AK):B8×Int:=if(a.fail==1)=true then([],240)else if(a.fail==2)=true then([],241)else if(a.fail==3)=true then([],242)else if(a.fail==4)=true then([],243)else(a.raw,0)
def Avg (a:AK) (u:As) (t:Int):JB N ⟨⟨u.d,u.g⟩,MO u,t⟩ a=some (AK2 a u t):=by unfold JB Ra AK2;simp only[aa];cases a.d==u.d<;>cases a.g==u.g<;>cases a.target==MO u<;>cases decide (a.from_<=t)<;>cases a.until_==0<;>rfl
def AuO (a:AK){u:As} (hu:K9 u) (t:Int):Si N a u t=some (AK2 a u t):=by unfold Si AK2;rw[ZH u ⟨hu.1.2.2.1,hu.1.2.2.2.1⟩];simp only[aa];cases a.d==u.d<;>cases a.g==u.g<;>cases a.target==MO u<;>cases decide (a.from_<=t)<;>cases a.until_==0<;>rfl
def AGF (u:As) (t:Int) (k2:Unit->Option Int) (hk:k2 ()=some (-1)): ∀(l pre:List AK),∃r,Ab N ⟨⟨u.d,u.g⟩,MO u,t⟩ k2 l (pre.length:Int)=some r/\(match l.find? λa=>AK2 a u t with|none=>r= -1|some a=>0<=r/\idx (pre++l) r=some a)
 |[],pre=>⟨-1,hk,rfl⟩
 | x::l,pre=>by
  rw[Ab,Avg,aa,List.find?_cons];cases h:AK2 x u t
  ·obtain⟨r,h1,h2⟩:=AGF u t k2 hk l (pre++[x]);rw[ag,bu]at h1;refine⟨r,?_,?_⟩;·rw[aj fO,show(pre.length:Int)+1=((pre.length+1:Nat):Int) by omega];exact h1
   ·rw[aJ]at h2;exact h2
  ·exact⟨_,rfl,fM,Wu pre l x⟩
def AFx{u:As} (hu:K9 u) (t:Int) (k4:Unit->Option (B8×Int)): ∀l:List AK,Kv N u t k4 l=match l.find? λa=>AK2 a u t with|none=>k4 ()|some a=>some (AaS a)
 |[]=>rfl
 |x::l=>by
  rw[Kv,AuO x hu,aa,List.find?_cons,AFx hu t k4 l];cases h:AK2 x u t;·rfl
  ·simp only[az];unfold AaS;cases x.fail==1<;>cases x.fail==2<;>cases x.fail==3<;>cases x.fail==4<;>rfl
theorem AgO{u:As} (hu:K9 u){l:List AK} (hl:l.length<=1000000) (t:Int){B:Nat} (hB: ∀a,a∈l->a.raw.length<=B) (hN:1000010<=N):UI N l u t=Rj N l u t/\∃r,Rj N l u t=some r/\r.1.length<=B/\(r.2=0->∃a,a∈l/\r.1=a.raw):=by
 unfold UI Rj;rw[NY u hu.1 (by have:=hu.2;omega) fM,QX u hu.1 (by have:=hu.2;omega) fM,aa,aa];cases MF N u;·exact⟨rfl,_,rfl,aM _,λh=>by cases h⟩
 ·have ho:Lh N u=some ⟨u.d,u.g⟩:=rfl;simp only[az,AB,ho,AWo u ⟨hu.1.2.2.1,hu.1.2.2.2.1⟩,aa];unfold BB;obtain⟨r,h1,h2⟩:=AGF (N:=N) u t (λ_=>some (-1)) rfl l [];rw[AB,Ap fM,Ap fM,AFx hu];rw[aq,show((0:Nat):Int)=0 from rfl]at h1;rw[h1,aa];cases hf:l.find? λa=>AK2 a u t with
  |none=>rw[hf]at h2;simp only at h2;subst h2;exact⟨rfl,_,rfl,aM _,λh=>by cases h⟩
  | some a=>
   rw[hf]at h2;obtain⟨h3,h4⟩:=h2;have ha:=hB a (eV hf);rw[aj (by simp only[au];omega)];rw[bl]at h4;rw[h4,aa];refine⟨?_,_,rfl,?_,?_⟩;·show _=some (AaS a);unfold AaS;cases a.fail==1<;>cases a.fail==2<;>cases a.fail==3<;>cases a.fail==4<;>rfl
   ·show(AaS a).1.length<=B;unfold AaS;split;·exact aM _
    split;·exact aM _
    split;·exact aM _
    split;·exact aM _
    ·exact ha
   ·intro h;refine⟨a,eV hf,?_⟩;revert h;unfold AaS;cases a.fail==1<;>cases a.fail==2<;>cases a.fail==3<;>cases a.fail==4<;>simp
def AFs (tr:List CH):Bs:=⟨Ka,Tu,[],tr⟩
def At4 (N:Nat) (l:List AK) (h:AH) (b:B8):Prop:=∃(a:AK) (n:Nat),a∈l/\EF N a.raw=some (h,(n:Int),0)/\Gn N h.l=some false/\H7 N h (a.raw.drop n) 1048576=some (b,0)
def trU (u0:As) (tr:List CH):Prop:= ∀e,tr.head?=some e->e.q=u0
def ABV (N B:Nat) (l:List AK) (u0:As) (f:BE):Prop:=((f.done=true->f.err=0->At4 N l f.e.head f.e.body)/\(f.e.r=[]->f.next=u0/\f.done=false)/\trU u0 f.e.r)/\K9 f.next/\0<=f.x/\f.x<=5/\(f.seen.length:Int)<=10+f.x/\f.e.r.length<=6/\(f.done=false->f.e=AFs f.e.r/\f.err=0/\(f.e.r.length:Int)<=f.x)/\Fok 16384 f.e.head.m/\f.e.body.length<=B
def AwE:Fok 16384 Tu.m:=⟨aM _,aM _⟩
def AeZ{B:Nat}{l:List AK}{u0:As}{f:BE} (h:ABV N B l u0 f):Pn N f=some f:=by obtain⟨h0,h1,h2,h3,h4,h5,h6,h7,h8⟩:=h;unfold Pn Dk Bu Cm;have e1:Af (([]:List As).length+f.seen.length) 80:=IP fP fM;have e2:Af (([]:List CH).length+f.e.r.length) 96:=IP fP fM;have e3:Af (([]:List AG).length+f.e.head.m.length) 32:=IP (by simp;have:=h7.1;omega) fM;rw[AP e1,AP e2,AP e3];rfl
def exF (f:BE) (s e:Int):List CH:=f.e.r++[⟨f.next,s,e⟩]
def AAG{u0:As}{f:BE} (h:(f.e.r=[]->f.next=u0/\f.done=false)/\trU u0 f.e.r) (s e:Int):exF f s e≠ []/\trU u0 (exF f s e):=by refine⟨by simp[exF],λx hx=>?_⟩;unfold exF at hx;cases ht:f.e.r with|nil=>rw[ht]at hx;cases hx;exact(h.1 ht).1|cons y r=>rw[ht]at hx;cases hx;exact h.2 _ (by rw[ht];rfl)
def Zy{B:Nat}{l:List AK}{u0:As}{f:BE} (h:ABV N B l u0 f) (s e d:Int):Kj N f s e d=some (if(d !=0)=true then⟨f.next,f.x,true,d,AFs (exF f s e),f.seen⟩else⟨f.next,f.x,f.done,f.err,AFs (exF f s e),f.seen⟩):=by obtain⟨h0,h1,h2,h3,h4,h5,h6,h7,h8⟩:=h;unfold Kj;have e1:Af (f.e.r.length+1) 96:=IP fM fM;rw[AcH,aa,AP e1];simp only[AB];cases (d !=0)<;>rfl
def AYp{B:Nat} (hB:B<=900000){l:List AK} (hl:l.length<=1000000) (t:Int) (hr: ∀a,a∈l->a.raw.length<=B) (hN:1000020<=N){u0:As}{f:BE} (hf:ABV N B l u0 f) (hd:f.done=false): ∃r,SH N l t f=some r/\SY N l t f=some r/\ABV N B l u0 r/\(r.done=true\/r.x=f.x+1):=by
 have hf0:=hf;obtain⟨⟨ga,gb,gc⟩,g1,g2,g3,g4,g5,g6,g7,g8⟩:=hf;obtain⟨g6a,g6b,g6c⟩:=g6 hd;have e1:Af (f.e.r.length+1) 96:=IP fM fM;have g4n:f.seen.length<=15:=fM;have e2:Af (f.seen.length+1) 80:=IP fM fM;have htr:(f.e.r.length:Int)<=5:=fM;have bad: ∀s e d:Int,(d !=0)=true->ABV N B l u0 ⟨f.next,f.x,true,d,AFs (exF f s e),f.seen⟩:=λs e d hd0=>⟨⟨λ_ h=>absurd h (by simpa using hd0),λh=>absurd h (AAG ⟨gb,gc⟩ s e).1,(AAG ⟨gb,gc⟩ s e).2⟩,g1,g2,g3,g4,by simp only[AFs,exF,ag,bu];omega,nofun,AwE,aM _⟩;unfold SH SY ZE;rw[AeZ hf0,aa,hd];simp only[ap,aA,AB];obtain⟨ha,A,ha1,ha2,ha3⟩:=AgO (N:=N) g1 hl t hr fM;rw[ha,ha1,aa,aa];cases hA:A.2 !=0
 ·simp only[ap,aA,az];obtain⟨hh,H,hh1,hh2⟩:=ACY (N:=N) (l:=A.1) fM fM;rw[hh,hh1,aa,aa];obtain⟨k1,k2,k3,k4,k5,k6,k7,k8⟩:=hh2;cases hH:H.2.2 !=0
  ·have hH0:H.2.2=0:=by simpa using hH
   simp only[ap,aA,az];obtain⟨hi,b,hi1⟩:=Aqe (N:=N) H.1.l;rw[hi,hi1,aa,aa];cases b
   ·obtain⟨n,hn⟩: ∃n:Nat,H.2.1=(n:Int):=⟨H.2.1.toNat,fM⟩;have hsub:sub A.1 H.2.1 (A.1.length:Int)=some (A.1.drop n):=by rw[hn];exact BP fM
    obtain⟨hb,R,hb1,hb2,hb3⟩:=AaB (N:=N) k1 (a:=A.1.drop n) (by rw[aG];omega) fM (lim:=1048576) fM;rw[aG]at hb2;simp only[ap,aA,hsub,aa,hb,hb1,Zy hf0];rw[AP e1];cases hR:R.2 !=0
    ·have hR0:(R.2==0)=true:=by simpa using hR
     simp only[hR0,hR,hi,hi1,aa,ap,aA,az];have hA0:A.2=0:=by simpa using hA
     obtain⟨a,hal,hae⟩:=ha3 hA0;have hsrc:At4 N l H.1 R.1:=by
      refine⟨a,n,hal,?_,hi1,?_⟩;·rw[<-hae,hh1,<-hn,<-hH0]
      ·rw[<-hae,hb1,<-(show R.2=0 from by simpa using hR0)]
     refine⟨_,rfl,rfl,⟨⟨λ_ _=>hsrc,λh=>absurd h (AAG ⟨gb,gc⟩ _ _).1,(AAG ⟨gb,gc⟩ _ _).2⟩,g1,g2,g3,g4,?_,nofun,k1,?_⟩,.inl rfl⟩;·simp only[ag,bu];omega
     ·simp only;omega
    ·have hR0:(R.2==0)=false:=by simpa using hR
     simp only[hR0,hR,aa,ap,aA,az];exact⟨_,rfl,rfl,bad H.1.l R.2 R.2 hR,.inl rfl⟩
   ·obtain⟨hx,X,hx1,hx2⟩:=AZL (N:=N) g1 k1 (l:=f.seen) fM f.x fM;have hH1:(H.2.2==0)=true:=by rw[hH0];rfl
    simp only[az,aa,hx,hx1,Zy hf0,hH1,hi,hi1];rw[AP e1];cases hX:X.2 !=0
    ·have hX0:(X.2==0)=true:=by simpa using hX
     have w:wr .i64 (f.x+1)=f.x+1:=Ak fM;simp only[hX0,az,ap,aA,AcH,aa,w,hH0];rw[AP e2,AP e2];have h5:f.x<5:=by refine Int.not_le.1 λh=>?_;unfold OL at hx1;rw[an (aC h)]at hx1;cases hx1;cases hX
     refine⟨_,rfl,?_,⟨⟨nofun,λh=>absurd h (AAG ⟨gb,gc⟩ H.1.l 0).1,(AAG ⟨gb,gc⟩ H.1.l 0).2⟩,hx2,by simp only;omega,by simp only;omega,by simp only[ag,bu];omega,by simp only[ag,bu];omega,λ_=>⟨rfl,g6b,by simp only[ag,bu];omega⟩,AwE,aM _⟩,.inr rfl⟩;rw[hd];rfl
    ·have hX0:(X.2==0)=false:=by simpa using hX
     simp only[hX0,hX,az,ap,aA,aa,hH0];exact⟨_,rfl,rfl,bad H.1.l 0 X.2 hX,.inl rfl⟩
  ·have hH1:(H.2.2==0)=false:=by simpa using hH
   simp only[az,Zy hf0,aa,hH1,hH,ap,aA];rw[AP e1];exact⟨_,rfl,rfl,bad 0 H.2.2 H.2.2 hH,.inl rfl⟩
 ·have hA1:(A.2==0)=false:=by simpa using hA
  simp only[az,Zy hf0,aa,hA1,hA,ap,aA];rw[AP e1];exact⟨_,rfl,rfl,bad 0 A.2 A.2 hA,.inl rfl⟩
def AGB{B:Nat} (hB:B<=900000){l:List AK} (hl:l.length<=1000000) (t:Int) (hr: ∀a,a∈l->a.raw.length<=B) (hN:1000020<=N){u0:As} (k:BE->Option (Bs×Int)): ∀(n:Nat) (f:BE),ABV N B l u0 f->(if f.done=true then 0 else(7-f.x).toNat)<n->∃r,ABV N B l u0 r/\r.done=true/\IQ N l t k n f=k r/\Jf N l t k n f=k r
 |0,f,_,h=>absurd h (cr _)
 | n+1,f,hf,h=>by
  rw[IQ,Jf];cases hd:f.done
  ·obtain⟨r,s1,s2,s3,s4⟩:=AYp hB hl t hr hN hf hd;rw[aj fO,aj fO,s1,s2,aa,aa];refine AGB hB hl t hr hN k n r s3 ?_;rw[aj (by rw[hd];decide)]at h;obtain⟨g0,g1,g2,g3,_⟩:=s3;obtain⟨q0,q1,q2,q3,_⟩:=hf;rcases s4 with s4|s4;·rw[an s4];omega
   ·split<;>omega
  ·exact⟨f,hf,hd,rfl,rfl⟩
def A2J (B:Nat) (r:Bs):Prop:=Fok 16384 r.head.m/\r.body.length<=B/\r.r.length<=10
def AxM (N:Nat) (l:List AK) (u:As) (r:Bs×Int):Prop:=MF N u=true->(r.2=0->At4 N l r.1.head r.1.body)/\r.1.r≠ []/\r.1.r.length<=6/\trU (TM u) r.1.r
def AZQ{B:Nat} (hB:B<=900000){l:List AK} (hl:l.length<=1000000) (t:Int) (hr: ∀a,a∈l->a.raw.length<=B) (hN:1000020<=N){u:As} (hu:K9 u): ∃r,Pw N l t u=some r/\UE N l t u=some r/\A2J B r.1/\AxM N l u r:=by
 unfold Pw UE Qy TK Pt AxM;rw[NY u hu.1 (by have:=hu.2;omega) fM,QX u hu.1 (by have:=hu.2;omega) fM,aa,aa];simp only[AB];cases MF N u;·obtain⟨m,rfl⟩: ∃m,N=m+1:=⟨N-1,fM⟩;simp only[ap,aA,aa,IQ,Jf,az];exact⟨_,rfl,rfl,⟨AwE,aM _,aM _⟩,λh=>absurd h fO⟩
 ·have hg:ABV N B l (TM u) ⟨TM u,0,false,0,AFs [],[TM u]⟩:=⟨⟨nofun,λ_=>⟨rfl,rfl⟩,λe he=>by cases he⟩,AGx hu,bE 0,(by show(0:Int)<=5;decide),(by show((1:Nat):Int)<=10+0;decide),aM _,λ_=>⟨rfl,rfl,bE 0⟩,AwE,aM _⟩;obtain⟨r,h1,h2,h3,h4⟩:=AGB hB hl t hr hN (λj3=>some (j3.e,j3.err)) N _ hg (by show(if false=true then 0 else(7-0:Int).toNat)<N;rw[aj fO];omega);simp only[az,aa];obtain⟨⟨z1,z2,z3⟩,y1,y2,y3,y4,y5,y6,y7,y8⟩:=h1;have hne:r.e.r≠ []:=λh=>by have:=(z2 h).2;rw[h2]at this;exact absurd this fO
  exact⟨_,h3,h4,⟨y7,y8,by show r.e.r.length<=10;omega⟩,λ_=>⟨λhe=>z1 h2 he,hne,y5,z3⟩⟩
end
section
variable{N:Nat}{l:B8}
end
section
variable{N:Nat}
def AA7: ∀(d k n:Nat) (acc:B8),n<10^(d+1)->d<k->n<18446744073709551616->acc.length+d<=1000->Ok (EM N k (n:Int) acc) (λr=>r.length<=acc.length+d+1)
 |d,0,n,acc,h,hk,hn,ha=>by omega
 | d,k+1,n,acc,h,hk,hn,ha=>by
  have hd:wr .u64 ((n:Int).tdiv 10)=((n / 10:Nat):Int):=by grind[wr,IntKind.wrap,IntKind.bits,IntKind.signed]
  rw[EM,hd];refine Ok.grd (by grind[AL]) (Ok.ite (λ_=>Ok.ret (by simp<;>omega)) (λhc=>?_));have hc':n / 10≠0:=by grind
  cases d with
  |zero=>omega
  |succ d=>
   refine(AA7 d k (n / 10) _ ?_ fM fM (by grind)).mono λr hr=>by grind
   omega
def Ad7 (n:Nat) (h1:n<1000000000000) (hN:20<=N):Ok (Gz N n) (λr=>r.length<=13):=by unfold Gz;exact(AA7 11 N n [] fM fM fM fN).mono λr hr=>by grind
end
section
variable{N B:Nat}
end
section
variable{N:Nat}{l:B8}
end
section
variable{N:Nat}
def Aqm (k:Unit->Option (AF×Int)): ∀l:B8,FL N k l=if l.all Sw=true then k ()else some (Px,110)
 |[]=>by rw[FL];rfl
 |c::l=>by
  rw[FL];dsimp only[AB];rw[Zo,aa,Aqm k l,aQ];have h37:(AJ c !=37)=!(c==37):=by unfold bne;rw[TU];rfl
  rw[h37];unfold Sw;cases (c==37)<;>cases Eh c<;>cases l.all (λc=>c==37||Eh c)<;>rfl
theorem YK (hN:20000<=N) (h:B8) (p:Int) (path:B8) (k:B8->Option (AF×Int)): ∀(xs:List B8) (acc:B8),acc.length+3 * wS xs<=300000->Eb N (Gi h p path) k xs acc=if xs.any (XE N)=true then some (Px,110)else k (if path=RB then acc else acc++xs.flatMap (OP N))
 |[],acc,_=>by rw[Eb];simp
 |x::xs,acc,hb=>by
  have hu:=AAR (N:=N) x;have hd:=KO (N:=N) x;have hf:=UF (f:=I7) (n:=3) (λb=>(Pg b).1) (Ah N x).1;rw[S9]at hb;rw[Eb,bN,aR];dsimp only[AB];rw[Ap fM,Aqm,Py _ hN,aa];unfold XE;by_cases h1:x.all Sw=true;rotate_left;·rw[aj h1,cP.2 h1];rfl
  rw[an h1,h1];by_cases h2:((Ah N x).1==[])=true;·rw[an h2,h2];rfl
  rw[aj h2,cP.2 h2,bo,bk,bk];change (if(path==RB)=true then _ else _)=_;by_cases hr:path=RB;·rw[an (show(path==RB)=true by simpa using hr),YK hN h p path k xs acc fM];simp only[hr,az];rfl
  ·rw[aj (show¬(path==RB)=true by simpa using hr),AU7 _ fM,aa,Ap (by simp only[ae,aq];omega),Ap (by simp only[ag,ae,aq];omega)];have e:acc++([58]++(Ah N x).1.flatMap I7)=acc++OP N x:=rfl;rw[e,YK hN h p path k xs _ (by rw[ag];omega)];simp only[hr,aA,aJ];rfl
def AgE (hN:20000<=N):((AV 47 RB).drop 1).dropLast.any (XE N)=false:=by have e:((AV 47 RB).drop 1).dropLast=[[46,119,101,108,108,45,107,110,111,119,110]]:=fO;rw[e];simp only[bN,List.any_nil,cV];unfold XE;rw[XX fO hN];rfl
theorem Aka (h:B8) (p:Int) (path:B8) (hu:Um (Gi h p path)) (hh:h.length<=1000) (hp:path.length<=5000) (hL:(AV 47 path).drop 1≠ []) (hN:20000<=N):Nu N (Gi h p path)=some (ZT N (Gi h p path)):=by
 have hpt:=hu.1;have hF:(Hw (Gi h p path)).length<=1000000:=by have:=WU h p;have ht:MO (Gi h p path)=path:=rfl;have he:Hw (Gi h p path)=([104,116,116,112,115,58,47,47]++hpF h p)++path:=rfl;rw[he];simp only[ag,ae,aq];omega
 have hw:=VX 47 path;have hw1:=ZA (AV 47 path);have hsl:=H5 47 path;have hne:=ES 47 path;unfold Nu ZT;rw[QX _ hu hF hN,aa];by_cases hv:MF N (Gi h p path)=true;rotate_left;·rw[aj hv,aj hv];rfl
 rw[an hv,an hv];change Option.bind (En N path (AJ 47)) _=some (V6 N h p path ((AV 47 path).drop 1));rw[QG _ 47 fM,aa,Abt hne fM];rw[aa];have hroot:path=RB->((AV 47 path).drop 1).dropLast.any (XE N)=false:=λe=>by rw[e];exact AgE hN
 generalize (AV 47 path).drop 1=L at *;have hLl:L.length<=wS L:=by unfold wS;omega
 obtain⟨y,hy1,hy2⟩:=AGa hL fM;dsimp only[AB];change Option.bind (idx L (wr .i64 ((L.length:Int)-1))) (λx10=>if(!(x10==ACx))=true then some (Px,(6:Int))else _)=_;rw[hy2,aa];unfold V6;rw[hy1];by_cases hd:y=ACx;rotate_left;·rw[an (by simpa using hd),an (by simpa using hd)]
 rw[aj (show¬(!(y==ACx))=true by simp[hd]),aj (show¬(some y==some ACx)=false by simp[hd]),AUJ hL fM,aa];have hpos:0<L.length:=bS.2 hL;by_cases h1:L.length=1;·rw[an (show(((L.dropLast.length:Nat):Int)==0)=true by simp[h1]),an h1];rfl
 rw[aj (show¬(((L.dropLast.length:Nat):Int)==0)=true by simp;omega),aj h1];have hid:=Acs h p;have hdl:=AAJ (N:=N) L.dropLast;have hwl:=Vd L;have hdll:L.dropLast.length<=wS L.dropLast:=by unfold wS;omega
 have fin: ∀I:B8,I.length<=100000->((CV N (AF.mk ([119,101,98]:B8) I)).bind λy24=>if(decide ((y24.length:Int)>4096))=true then(some ((AF.mk [] []),5):Option (AF×Int))else some ((AF.mk ([119,101,98]:B8) I),0))=some (if(KN ⟨Lu,I⟩).length>4096 then(Px,5)else(⟨Lu,I⟩,0)):=by
  intro I hI;rw[Yw _ ⟨fN,by dsimp only;omega⟩,aa];change (if decide (((KN ⟨Lu,I⟩).length:Int)>4096)=true then _ else _)=_;split;·rename_i AX;rw[an (by simp only[au]at AX;omega)];rfl
  ·rename_i AX;rw[aj (by simp only[au]at AX;omega)];rfl
 refine(A3x (N:=N) h p hpt fM fM (λJ=>grd (AL L.dropLast.length) (Eb N (Gi h p path) (λj18=>(CV N (AF.mk ([119,101,98]:B8) j18)).bind λy42=>if(decide ((y42.length:Int)>4096))=true then some ((AF.mk [] []),5)else some ((AF.mk ([119,101,98]:B8) j18),0)) L.dropLast J))).trans ?_;rw[Ap fM,YK hN h p path _ _ _ fM];by_cases hr:path=RB;·rw[hroot hr,aj fO,an hr,an hr];exact fin (idA h p) fM
 rw[aj hr,aj hr];by_cases hb:L.dropLast.any (XE N)=true;·rw[an hb,an hb]
 ·rw[aj hb,aj hb];exact fin _ (by rw[ag];omega)
def AAm (c:UInt8): ∀a b:B8,AV c (a++c::b)=AV c a++AV c b
 |[],b=>by simp[AV]
 |x::a,b=>by
  rw[bD,AV,AV,AAm c a b];split;·rfl
  ·cases h:AV c a with|nil=>exact absurd h (ES c a)|cons p ps=>rfl
theorem ZM (xs:List B8):(AV 47 (Ls N xs)).drop 1≠ []:=by
 unfold Ls;split;·decide
 ·have:AYK=47::ACx:=rfl;rw[this,AAm];intro h;have h1:=br List.length h;have h2:0<(AV 47 (xs.flatMap (upT N))).length:=bS.2 (ES _ _);have h3:(AV 47 ACx).length=1:=fO;simp only[aG,ag,aq]at h1;omega
def Xm (N:Nat) (d:AF):AF×Int:=if((toS N d).2 !=0)=true then(Px,(toS N d).2)else ZT N (toS N d).1
def ACS{d:AF} (h: ¬((toS N d).2 !=0)=true):(toS N d).1=Gi (DJ N d).1.d (DJ N d).1.g (Ls N ((AV 58 d.u).drop 1))/\(Hw (toS N d).1).length<=4096/\((DJ N d).2 !=0)=false/\((AV 58 d.u).drop 1).any (upB N)=false:=by
 unfold toS at h⊢;split at h;·rename_i h1;exact absurd h1 h
 rename_i h1;rw[aj h1];split at h;·exact absurd rfl h
 rename_i h2;rw[aj h2];split at h;·exact absurd rfl h
 rename_i h3;rw[aj h3];exact⟨rfl,by dsimp only;omega,by simpa using h1,by simpa using h2⟩
def ACI{d:AF} (h: ¬((toS N d).2 !=0)=true):(Ls N ((AV 58 d.u).drop 1)).length<=4096:=by obtain⟨h1,h2,_⟩:=ACS h;rw[h1]at h2;have he: ∀(a:B8) (b:Int) (c:B8),Hw (Gi a b c)=([104,116,116,112,115,58,47,47]++hpF a b)++c:=λ_ _ _=>rfl;rw[he]at h2;simp only[ag,ae,aq]at h2;omega
def ACs{d:AF} (h: ¬((toS N d).2 !=0)=true):Um (Gi (DJ N d).1.d (DJ N d).1.g (Ls N ((AV 58 d.u).drop 1))):=by have:=ACI h;obtain⟨a1,a2⟩:=Vm (N:=N) d;exact⟨a1,by simp only[Gi];omega,by simp only[Gi];omega,by simp[Gi],by simp[Gi]⟩
def AkP (d:AF) (hm:d.i.length<=4096) (hi:d.u.length<=16000) (hN:20000<=N):KX N d=some (Xm N d):=by
 obtain⟨a1,a2⟩:=Vm (N:=N) d;unfold KX Xm;rw[Acg d hm hi hN,aa];by_cases h:((toS N d).2 !=0)=true;·rw[an h,an h];rfl
 have hb:=ACI h;have hu:=ACs h;rw[aj h,aj h,(ACS h).1,Aoi _ _ _ hu fM fM (ZM _) hN];rfl
def AnB (d:AF) (hm:d.i.length<=4096) (hi:d.u.length<=16000) (hN:20000<=N):LK N d=some (Xm N d):=by
 obtain⟨a1,a2⟩:=Vm (N:=N) d;unfold LK Xm;rw[AdI d hm hi hN,aa];by_cases h:((toS N d).2 !=0)=true;·rw[an h,an h];rfl
 have hb:=ACI h;have hu:=ACs h;rw[aj h,aj h,(ACS h).1,Aka _ _ _ hu fM fM (ZM _) hN];rfl
def Y8{c:UInt8} (h:FI c=true):c≠35/\c≠63/\c≠47/\c≠58/\c≠37/\c≠64:=by have key:=Bl (f:=λn=>(!FI (UInt8.ofNat n))||(decide (UInt8.ofNat n≠35)&&(decide (UInt8.ofNat n≠63)&&(decide (UInt8.ofNat n≠47)&&(decide (UInt8.ofNat n≠58)&&(decide (UInt8.ofNat n≠37)&&decide (UInt8.ofNat n≠64))))))) (g:=λ_=>true) (by kernel_rfl) c;simp only[bP]at key;rw[h]at key;simpa using key
def Ae3{c:UInt8} (h:APB c=true\/Fj c=true\/c=46):FI (DL c)=true:=by
 have key:=Bl (f:=λn=>(!(APB (UInt8.ofNat n)||(Fj (UInt8.ofNat n)||decide (UInt8.ofNat n=46))))||FI (DL (UInt8.ofNat n))) (g:=λ_=>true) (by kernel_rfl) c;simp only[bP]at key;rcases h with h|h|h;·rw[h]at key;simpa using key
 ·rw[h]at key;simpa using key
 ·rw[h]at key⊢;simpa using key
def AAL (c:UInt8): ∀(l:B8) (x:UInt8),x∈l->x=c\/∃p,p∈AV c l/\x∈p
 |[],x,h=>by cases h
 | y::t,x,h=>by
  rw[AV];split
  ·rename_i hy;rcases aO.1 h with rfl|h;·exact .inl hy
   ·rcases AAL c t x h with h|⟨p,hp,AX⟩;·exact .inl h
    ·exact .inr ⟨p,by simp[hp],AX⟩
  ·cases hs:AV c t with
   |nil=>exact absurd hs (ES c t)
   | cons p ps=>
    simp only;rcases aO.1 h with rfl|h;·exact .inr ⟨x::p,fN,fN⟩
    ·rcases AAL c t x h with h|⟨q,hq,AX⟩;·exact .inl h
     ·rw[hs]at hq;rcases aO.1 hq with rfl|hq;·exact .inr ⟨y::q,fN,by simp[AX]⟩
      ·exact .inr ⟨q,by simp[hq],AX⟩
def AZv{m:Nat}{l:B8} (h:(Dw m l).2=0):l.all Fj=true:=by
 unfold Dw at h;split at h;·cases h
 split at h;·assumption
 ·cases h
def AY5{a:B8} (h:((Jy a).2 !=0)=false):(Jy a).1≠ []/\∀x,x∈(Jy a).1->FI x=true:=by
 unfold Jy at h⊢;split at h;·cases h
 rename_i h0;rw[aj h0];split at h;·cases h
 rename_i h1;rw[aj h1];split at h;rotate_left;·cases h
 rename_i h2;rw[an h2];refine⟨by simpa using h0,λx AX=>?_⟩;obtain⟨y,hy,rfl⟩:=bv.1 AX;refine Ae3 ?_;rcases AAL 46 a y hy with h|⟨p,hp,hyp⟩;·exact .inr (.inr h)
 ·rw[cf]at h2;rcases h2 with h2|h2;·unfold ADI at h2;rw[aw]at h2;have:=aK.1 h2.2 p hp;exact .inr (.inl (aK.1 (AZv (by simpa using this)) y hyp))
  ·unfold VV at h2;rw[aw]at h2;have:=aK.1 h2.1 p hp;unfold Rq at this;simp only[aw]at this;exact .inl (aK.1 this.2.2.2.2 y hyp)
def AlY{a:B8} (h:((hpS a).2 !=0)=false):(hpS a).1.d≠ []/\∀x,x∈(hpS a).1.d->FI x=true:=by
 unfold hpS at h⊢;split at h;·rename_i h1;rw[h1]at h;cases h
 rename_i h1;have hc:=AY5 (a:=(Ac 58 a).1) (by simpa using h1);rw[aj h1];split at h
 ·rename_i h2;rw[an h2];split at h;·rename_i h3;rw[h3]at h;cases h
  ·rename_i h3;rw[aj h3];exact hc
 ·rename_i h2;rw[aj h2];exact hc
def ATj: ∀(k n:Nat) (acc:B8),acc.all FI=true->(ADA k n acc).all FI=true
 |0,n,acc,h=>h
 |k+1,n,acc,h=>by
  have hd:FI (UInt8.ofNat (48+n % 10))=true:=by have:n % 10<10:=fH _ fO;generalize n % 10=d at *;have:d=0\/d=1\/d=2\/d=3\/d=4\/d=5\/d=6\/d=7\/d=8\/d=9:=fM;rcases this with rfl|rfl|rfl|rfl|rfl|rfl|rfl|rfl|rfl|rfl<;>decide
  rw[ADA];split;·rw[aQ,hd,h];rfl
  ·exact ATj k _ _ (by rw[aQ,hd,h];rfl)
def X4{l:B8} (h: ∀x,x∈l->FI x=true):l.flatMap I7=l:=by induction l with|nil=>rfl|cons c l ih=>rw[aR,ih λx AX=>h x (by simp[AX])];unfold I7;rw[an (h c fN)];rfl
def AGV (n:Nat): ∀x,x∈fmtS n->FI x=true:=λx AX=>aK.1 (ATj 20 n [] rfl) x AX
def Aug{h:B8} (p:Int) (hh: ∀x,x∈h->FI x=true):idA h p=(hpF h p).flatMap I7:=by
 unfold idA hpF;split;·rw[X4 hh]
 ·rw[cY,cY,X4 hh,X4 (AGV _),aJ];rfl
def Al8 (b:UInt8) (t:B8):OI (U5 (b.toNat / 16)::U5 (b.toNat % 16)::t)=some b:=by have key:=Bl (f:=λn=>decide (OI [U5 (n / 16),U5 (n % 16)]=some (UInt8.ofNat n))) (g:=λ_=>true) (by kernel_rfl) b;simp only[au,bP]at key;rw[<-key];rfl
def A0K (b:UInt8) (t:B8):unS (OO b++t)=(unS t).map ((true,b):: ·):=by change Ff _ (37::U5 (b.toNat / 16)::U5 (b.toNat % 16)::t)=_;rw[Ff,an rfl,Al8];simp only[dI,aN];rw[Aah (by simp only[OO,ag,ae,aq];omega)]
def A18{b:UInt8} (h:b≠37) (t:B8):unS ([b]++t)=(unS t).map ((false,b):: ·):=by change Ff _ (b::t)=_;rw[Ff,aj h,Aah (by simp only[ag,ae,aq];omega)]
def Anc: ∀l:B8,unS (l.flatMap I7)=some (l.map λb=>(!FI b,b))
 |[]=>rfl
 |b::l=>by
  rw[aR,aH];have ih:=Anc l;cases hp:FI b;·rw[show I7 b=OO b by unfold I7;rw[hp];rfl,A0K,ih];rfl
  ·rw[show I7 b=[b] by unfold I7;rw[hp];rfl,A18 (Y8 hp).2.2.2.2.1,ih];rfl
def AuE (b:UInt8):(OO b).all Yg=true:=by have key:=Bl (f:=λn=>([37,U5 (n / 16),U5 (n % 16)]:B8).all Yg) (g:=λ_=>true) (by kernel_rfl) b;exact key
def Abm (l:B8):(l.flatMap I7).all Yg=true:=by
 rw[aK];intro x AX;obtain⟨b,_,hb⟩:=d8.1 AX;unfold I7 at hb;split at hb;·rename_i hp;rcases aV.1 hb with rfl;unfold Yg;rw[hp];rfl
 ·exact aK.1 (AuE b) x hb
def AVM (l:B8):(l.flatMap I7).contains 58=false:=by
 cases h:(l.flatMap I7).contains 58;·rfl
 ·have:=aK.1 (Abm l) 58 (by simpa using h);exact absurd this fO
def ADG{l:B8} (hb:(l.flatMap I7).length<=16000) (hN:20000<=N):Ah N (l.flatMap I7)=(l,0):=by
 rw[XX hb hN,Anc];simp only[fJ];congr 1;conv=>rhs;rw[<-List.map_id l]
 congr 1
def AD8{c:UInt8}{l:B8} (h:l.contains c=false):AV c l=[l]:=by rw[NF,Ui h];rfl
def ACe: ∀(ps:List B8) (e:B8),e.contains 58=false->(∀p,p∈ps->p.contains 58=false)->AV 58 (e++ps.flatMap λp=>58::p)=e::ps|[],e,he,_=>by rw[List.flatMap_nil,bm,AD8 he]|p::ps,e,he,h=>by rw[aR,bD,AAm,AD8 he,ACe ps p (h p fN) λq hq=>h q (by simp[hq])];rfl
def AiU (hN:20000<=N){I:B8} (hb:I.length<=16000){ps:List B8} (hs:AV 58 I=ps.map λl=>l.flatMap I7) (hne: ∀l,l∈ps->l≠ []):(Sb I).2=0/\AQm (Sb I).1=false:=by
 have hpt:=IY 58 I;have hdk:(AV 58 I).all (XG N)=true:=by rw[aK];intro p hp;have hl:=hpt p hp;rw[hs]at hp;obtain⟨l,hl',rfl⟩:=bv.1 hp;unfold XG;rw[ADG fM hN];rfl
 have hok:((AV 58 I).all λp=>p.all Yg)=true:=by rw[aK];intro p hp;rw[hs]at hp;obtain⟨l,hl',rfl⟩:=bv.1 hp;exact Abm l
 obtain⟨r1,r2⟩:=AOJ (N:=N) hN I.length I (av _) hb;unfold Sb;cases hu:unS I with
 |none=>rw[r1 hu]at hdk;cases hdk
 |some us=>
  obtain⟨_,q2,q3⟩:=r2 us hu;rw[hok]at q2;simp only;rw[an q2.symm];refine⟨rfl,?_⟩;dsimp only;rw[<-q3 q2.symm,AbZ _ _ (ES 58 I)];have hm:=fc (ES 58 I);have hdl:=aK.1 hdk _ hm;have hl:=hpt _ hm;rw[AWR fM hN hdl];have hm':(AV 58 I).getLast (ES 58 I)∈ps.map λl=>l.flatMap I7:=by rw[<-hs];exact hm
  obtain⟨l,hl',he⟩:=bv.1 hm';have hne:=hne l hl';rw[<-he];cases l with|nil=>exact absurd rfl hne|cons b l=>have:=(Pg b).2;cases hq:I7 b with|nil=>rw[hq]at this;simp at this|cons y ys=>simp[hq]
def Aph{I:B8} (hl:(KN ⟨Lu,I⟩).length<=4096) (h1:(Sb I).2=0) (h2:AQm (Sb I).1=false):(Oy (KN ⟨Lu,I⟩)).2=0:=by obtain⟨k1,k2,k3⟩:=ZW I;unfold Oy;rw[aj fM,k1,k2];dsimp only;rw[aj fO,aj fO,aj fO,aj (by rw[h1];decide),h2];rfl
def As8{U:AT} (h:(AAx N U).2=0):((hpS U.k).2 !=0)=false/\(AAx N U).1.d=(hpS U.k).1.d/\(AAx N U).1.g=(hpS U.k).1.g:=by
 unfold AAx at h⊢;split at h;·cases h
 rename_i h1;rw[aj h1];split at h;·cases h
 rename_i h2;rw[aj h2];split at h;·rename_i h3;dsimp only at h;rw[h]at h3;cases h3
 rename_i h3;rw[aj h3];split at h;·rename_i h4;dsimp only at h;rw[h]at h4;cases h4
 rename_i h4;rw[aj h4];split at h;·rename_i h5;dsimp only at h;rw[h]at h5;cases h5
 rename_i h5;rw[aj h5];split at h;·rename_i h6;dsimp only at h;rw[h]at h6;cases h6
 rename_i h6;rw[aj h6];split at h;·cases h
 rename_i h7;rw[aj h7];exact⟨by simpa using h3,rfl,rfl⟩
def AdX{u:As} (h:MF N u=true):AAx N (XJ Us (AEY u))=(u,0):=by
 unfold MF at h;split at h;rotate_left;·cases h
 rename_i h0;have hu:=Ay8 h;have hp:(XI N Us (AEY u)).2=0:=by simpa using h0
 unfold XI at hu hp;split at hp;·cases hp
 rename_i hl;rw[aj hl]at hu;exact Prod.ext hu.symm hp
theorem AuQ{h:B8}{p:Int}{q:B8} (hh: ∀x,x∈h->FI x=true):(XJ Us (AEY (Gi h p (47::q)))).k=hpF h p:=by
 have hF: ∀x,x∈hpF h p->x≠35/\x≠63/\x≠47:=by
  intro x AX;unfold hpF at AX;split at AX;·obtain⟨a,b,c,_⟩:=Y8 (hh x AX);exact⟨a,b,c⟩
  ·simp only[aZ,aV]at AX;rcases AX with(AX|AX)|AX;·obtain⟨a,b,c,_⟩:=Y8 (hh x AX);exact⟨a,b,c⟩
   ·subst AX;decide
   ·obtain⟨a,b,c,_⟩:=Y8 (AGV _ x AX);exact⟨a,b,c⟩
 have e:AEY (Gi h p (47::q))=([47,47]++(hpF h p++[47]))++q:=by have:AEY (Gi h p (47::q))=[47,47]++(hpF h p++((47::q)++[])):=rfl;rw[this];simp
 have hne: ∀c:UInt8,(c=35\/c=63)->∀x,x∈([47,47]++(hpF h p++[47]):B8)->x≠c:=by
  intro c hc x AX;simp only[aZ,aO,dB,eM]at AX;rcases AX with(AX|AX)|AX|AX;·subst AX;rcases hc with rfl|rfl<;>decide
  ·subst AX;rcases hc with rfl|rfl<;>decide
  ·obtain⟨a,b,_⟩:=hF x AX;rcases hc with rfl|rfl<;>assumption
  ·subst AX;rcases hc with rfl|rfl<;>decide
 unfold XJ;dsimp only;rw[e,ACR _ _ (hne 35 (.inl rfl))];dsimp only;rw[ACR _ _ (hne 63 (.inr rfl))];dsimp only;generalize (Ac 63 (Ac 35 q).1).1=z;unfold Pk;rw[an (by rfl)];dsimp only;have:([47,47]++(hpF h p++[47])++z:B8).drop 2=hpF h p++47::z:=fN;rw[this,List.takeWhile_append_of_pos (λx AX=>by simpa using(hF x AX).2.2)];simp
def AiD (xs:List B8): ∃q,Ls N xs=47::q:=by
 unfold Ls;split;·exact⟨_,rfl⟩
 ·cases xs with|nil=>exact⟨_,rfl⟩|cons x xs=>exact⟨_,rfl⟩
def round{h:B8}{p:Int}{q:B8} (hN:20000<=N) (hq:q.length<=5000) (hv:(ZT N (Gi h p (47::q))).2=0):DJ N (ZT N (Gi h p (47::q))).1=(⟨h,p⟩,0):=by
 have hw:=VX 47 (47::q);have hw1:=ZA (AV 47 (47::q));rw[ae]at hw;unfold ZT at hv⊢;split at hv;rotate_left;·cases hv
 rename_i hval;rw[an hval];have hw:=AdX hval;obtain⟨w1,w2,w3⟩:=As8 (N:=N) (U:=XJ Us (AEY (Gi h p (47::q)))) (by rw[hw]);rw[hw]at w2 w3;obtain⟨c1,c2⟩:=AlY w1;have hh: ∀x,x∈h->FI x=true:=by change h=_ at w2;rw[<-w2]at c2;exact c2
 have hn:h≠ []:=by change h=_ at w2;rw[w2];exact c1
 rw[AuQ hh]at w1 w2 w3;have hp:hpS (hpF h p)=(⟨h,p⟩,0):=by refine Prod.ext ?_ (by simpa using w1);change h=_ at w2;change p=_ at w3;cases AX:(hpS (hpF h p)).1;rw[AX]at w2 w3;rw[w2,w3]
 have hFn:hpF h p≠ []:=by
  unfold hpF;split;·exact hn
  ·simp
 have main: ∀xs:List B8,(∀x,x∈xs->(Ah N x).1≠ [])->(KN ⟨Lu,idA h p++xs.flatMap (OP N)⟩).length<=4096->DJ N ⟨Lu,idA h p++xs.flatMap (OP N)⟩=(⟨h,p⟩,0):=by
  intro xs AX hl;have hsp:AV 58 (idA h p++xs.flatMap (OP N))=(hpF h p::xs.map λx=>(Ah N x).1).map λl=>l.flatMap I7:=by
   have e:xs.flatMap (OP N)=(xs.map λx=>(Ah N x).1.flatMap I7).flatMap λp=>58::p:=by rw[List.flatMap_map];rfl
   rw[e,Aug p hh,ACe _ _ (AVM _) (λy hy=>by obtain⟨x,_,rfl⟩:=bv.1 hy;exact AVM _),aH,fJ];rfl
  have hI:(idA h p++xs.flatMap (OP N)).length<=4096:=by have:=(ZW (idA h p++xs.flatMap (OP N))).2.2;omega
  obtain⟨r1,r2⟩:=AiU hN fM hsp (λl hl=>by
   rcases aO.1 hl with rfl|hl;·exact hFn
   ·obtain⟨x,hx',rfl⟩:=bv.1 hl;exact AX x hx');have hd:=Aph hl r1 r2;have hcut:(Ac 58 (idA h p++xs.flatMap (OP N))).1=(hpF h p).flatMap I7:=by have:=ZZ 58 (idA h p++xs.flatMap (OP N));rw[hsp]at this;simpa using this.symm
  unfold DJ;rw[aj (show¬((Lu==Lu)=false) by decide),aj (by rw[hd];decide),hcut,ADG (by have:=IY 58 (idA h p++xs.flatMap (OP N)) ((hpF h p).flatMap I7) (by rw[hsp];simp);omega) hN,hp]
 change (V6 N h p (47::q) ((AV 47 (47::q)).drop 1)).2=0 at hv;change DJ N (V6 N h p (47::q) ((AV 47 (47::q)).drop 1)).1=_;unfold V6 at hv⊢;split at hv;·cases hv
 rename_i h1;rw[aj h1];split at hv;·cases hv
 rename_i h2;rw[aj h2];split at hv
 ·rename_i h3;rw[an h3];split at hv;·cases hv
  rename_i h4;rw[aj h4];have:=main [] fN (by simpa using h4);simpa using this
 rename_i h3;rw[aj h3];split at hv;·cases hv
 rename_i h5;rw[aj h5];split at hv;·cases hv
 rename_i h6;rw[aj h6];refine main _ (λx AX=>?_) (by change¬_>_ at h6;omega);have h5':((AV 47 (47::q)).drop 1).dropLast.any (XE N)=false:=by simpa using h5
 have:=dX.1 h5' x AX;unfold XE at this;simp only[cf,fL]at this;simpa using this.2
def Aek{d:AF} (hN:20000<=N) (h:(Xm N d).2=0):((DJ N (Xm N d).1).2 !=0)=false:=by
 unfold Xm at h⊢;split at h;·rename_i h0;dsimp only at h;rw[h]at h0;cases h0
 rename_i h0;rw[aj h0];have hb:=ACI h0;rw[(ACS h0).1]at h⊢;obtain⟨q,hq⟩:=AiD (N:=N) ((AV 58 d.u).drop 1);rw[hq]at h hb⊢;rw[ae]at hb;rw[round hN fM h];rfl
def id0:AD:=⟨0,[],[],0⟩
def AOD (N:Nat) (s:B8):AD×Int:=if((VE N s).2 !=0)=true then(id0,(VE N s).2)else(⟨1,ARc (VE N s).1,(VE N s).1.d,0⟩,0)
def AO8 (N:Nat) (s:B8):AD×Int:=if((Vh N s).2 !=0)=true then(id0,(Vh N s).2)else(⟨2,AT4 (Vh N s).1,(Vh N s).1.d,0⟩,0)
def ASN (N:Nat) (a b:B8):AD×Int:=if((XI N a b).2 !=0)=true then(id0,(XI N a b).2)else(⟨3,Hw (XI N a b).1,(XI N a b).1.d,(XI N a b).1.g⟩,0)
def AS1 (N:Nat) (s:B8):AD×Int:=if((Oy s).2 !=0)=true then(id0,(Oy s).2)else if((Xm N (Oy s).1).2 !=0)=true then(id0,(Xm N (Oy s).1).2)else(⟨4,KN (Xm N (Oy s).1).1,(DJ N (Xm N (Oy s).1).1).1.d,(DJ N (Xm N (Oy s).1).1).1.g⟩,0)
def Q4 (s:B8):B8:=(Ac 58 s).1.map DL
def II (N:Nat) (s:B8):AD×Int:=if s.length>4096 then(id0,5)else if s.contains 58=false then(id0,60)else if(Q4 s==[97,99,99,116])=true then AOD N s else if(Q4 s==[109,97,105,108,116,111])=true then AO8 N s else if(Q4 s==[104,116,116,112,115])=true then ASN N (Ac 58 s).1 (Ac 58 s).2.1 else if(Q4 s==[100,105,100])=true then AS1 N s else(id0,60)
def AwX (s:B8) (hb:s.length<=1000000) (hN:20000<=N):Jv N s=some (AOD N s):=by obtain⟨l1,l2⟩:=AGA (N:=N) s;unfold Jv AOD;rw[AmX s hb hN,aa,Adx _ ⟨fM,fM⟩,aa];split<;>rfl
def Aub (s:B8) (hb:s.length<=1000000) (hN:20000<=N):JY N s=some (AO8 N s):=by obtain⟨l1,l2⟩:=AGL (N:=N) s;unfold JY AO8;rw[Aku s hb hN,aa,AiR _ ⟨fM,fM⟩,aa];split<;>rfl
def Apq (a b:B8):Um (XI N a b).1/\(Hw (XI N a b).1).length<=20000:=by
 have hf: ∀u:As,QC u.g->u.d.length<=300->u.c.length<=4100->u.h.length<=4100->u.a.length<=4100->Um u/\(Hw u).length<=20000:=λu h1 h2 h3 h4 h5=>by refine⟨⟨h1,fM,fM,fM,fM⟩,?_⟩;have hh:=WU u.d u.g;have ht:=ADB u;unfold Hw;split<;>(simp only[ag,ae,aq];omega)
 have hz:Um Ka/\(Hw Ka).length<=20000:=hf _ (by unfold QC Ka;simp) (by simp[Ka]) (by simp[Ka]) (by simp[Ka]) (by simp[Ka]);unfold XI;split;·exact hz
 rename_i hl;obtain⟨l1,l2,l3,l4⟩:=AuU a b;simp only[ag,ae]at hl;generalize XJ a b=U at *;have q1:=ADU U.k;have q2:=Y7 U.k;have n1:=Jo (N:=N) U.c inP;have n2:=Jo (N:=N) U.h inQ;have n3:=Jo (N:=N) U.a inQ;have pl:=Yh (N:=N) (De N U.c inP).1;unfold AAx;repeat' split
 all_goals first|exact hz|exact hf _ q1 (by dsimp only;omega) (by dsimp only;omega) (by dsimp only;omega) (by dsimp only;omega)
def A0l{a b:B8} (h:NP a) (hb:(a++58::b).length<=1000000) (hN:20000<=N):KV N (a++58::b)=some (ASN N a b):=by unfold KV ASN;rw[Ac1 h hb hN,aa,WI _ (Apq a b).1 fM,aa];split<;>rfl
def Az4{a b:B8} (h:NP a) (hb:(a++58::b).length<=1000000) (hN:20000<=N):Tp N (a++58::b)=some (ASN N a b):=by unfold Tp ASN;rw[Ab8 h hb hN,aa,Rz _ (Apq a b).1 fM,aa];split<;>rfl
def AiH{h:B8}{p:Int}{path:B8}{L:List B8}:(V6 N h p path L).1.i.length<=4096/\(V6 N h p path L).1.u.length<=4096:=by
 have hf: ∀I:B8,¬(KN ⟨Lu,I⟩).length>4096->(⟨Lu,I⟩:AF).i.length<=4096/\(⟨Lu,I⟩:AF).u.length<=4096:=λI hI=>by have:=(ZW I).2.2;exact⟨by simp[Lu],by dsimp only;omega⟩
 unfold V6;repeat' split
 all_goals first|exact hf _ (by assumption)|simp[Px]
def AUW (d:AF):(Xm N d).1.i.length<=4096/\(Xm N d).1.u.length<=4096:=by
 unfold Xm ZT;split;·simp[Px]
 split;·exact AiH
 ·simp[Px]
def A0P (s:B8) (hb:s.length<=1000000) (hN:20000<=N):KH N s=some (AS1 N s):=by
 obtain⟨l1,l2⟩:=AC7 s;obtain⟨c1,c2⟩:=AUW (N:=N) (Oy s).1;unfold KH AS1;rw[AJk s hb hN,aa,AkP _ l1 fM hN,aa,AFp _ c1 fM hN,aa,Y0 _ ⟨fM,fM⟩,aa];split;·rfl
 split;·rfl
 rename_i h;rw[Aek hN (by simpa using h)];rfl
def A0Q (s:B8) (hb:s.length<=1000000) (hN:20000<=N):LB N s=some (AS1 N s):=by
 obtain⟨l1,l2⟩:=AC7 s;obtain⟨c1,c2⟩:=AUW (N:=N) (Oy s).1;unfold LB AS1;rw[AKt s hb hN,aa,AnB _ l1 fM hN,aa,Aef _ c1 fM hN,aa,Yw _ ⟨fM,fM⟩,aa];split;·rfl
 split;·rfl
 rfl
def AUk{s:B8} (hc:s.contains 58=true):s=(Ac 58 s).1++58::(Ac 58 s).2.1:=by
 have hlt:=PE hc;rw[Gf hc];have e:=bh (p:=(· !=(58:UInt8))) (l:=s);have hd:s.dropWhile (· !=(58:UInt8))=58::(s.dropWhile (· !=(58:UInt8))).drop 1:=by cases hq:s.dropWhile (· !=(58:UInt8))with|nil=>rw[hq,bm]at e;rw[e]at hlt;omega|cons y ys=>have:=dL (λz=>z !=(58:UInt8)) s;rw[hq]at this;simp at this;simp[this]
 conv=>lhs;rw[<-e,hd]
def AAH (s:B8) (hb:s.length<=1000000) (hN:20000<=N):Jg N s=some (II N s):=by
 have hl:=FZ 58 s;unfold Jg II;by_cases h1:s.length>4096;·rw[an fP,an h1];rfl
 rw[aj fP,aj h1,P6 58 s fM,aa];unfold Qe;rw[aa,lower_eq _ fM,aa,UR];dsimp only[AB];change (if(Q4 s==[97,99,99,116])=true then _ else(if(Q4 s==[109,97,105,108,116,111])=true then _ else(if(Q4 s==[104,116,116,112,115])=true then _ else(if(Q4 s==[100,105,100])=true then _ else _))))=_;cases hc:s.contains 58;·cases (Q4 s==[97,99,99,116])<;>cases (Q4 s==[109,97,105,108,116,111])<;>cases (Q4 s==[104,116,116,112,115])<;>cases (Q4 s==[100,105,100])<;>rfl
 rw[AwX s hb hN,Aub s hb hN,A0P s hb hN];by_cases k1:(Q4 s==[97,99,99,116])=true;·rw[k1];rfl
 rw[cP.2 k1];by_cases k2:(Q4 s==[109,97,105,108,116,111])=true;·rw[k2];rfl
 rw[cP.2 k2];by_cases k3:(Q4 s==[104,116,116,112,115])=true
 ·have hs:=AUk hc;have hA:NP (Ac 58 s).1:=by unfold NP;simpa[Q4]using k3
  have:=A0l (N:=N) (b:=(Ac 58 s).2.1) hA (by rw[<-hs];exact hb) hN;rw[<-hs]at this;rw[k3,this];rfl
 rw[cP.2 k3];by_cases k4:(Q4 s==[100,105,100])=true;·rw[k4];rfl
 rw[cP.2 k4];rfl
def AbA (s:B8) (hb:s.length<=1000000) (hN:20000<=N):EH N s=some (II N s):=by
 have hl:=FZ 58 s;obtain⟨a1,a2⟩:=AGA (N:=N) s;obtain⟨m1,m2⟩:=AGL (N:=N) s;unfold EH II;by_cases h1:s.length>4096;·rw[an fP,an h1];rfl
 rw[aj fP,aj h1,Alx 58 s hb,aa,WB];cases hc:s.contains 58;·rfl
 rw[aj fO,aj fO,(V5 hc hb).1,aa,P8 _ fM,aa];change (if(Q4 s==[97,99,99,116])=true then _ else(if(Q4 s==[109,97,105,108,116,111])=true then _ else(if(Q4 s==[104,116,116,112,115])=true then _ else(if(Q4 s==[100,105,100])=true then _ else _))))=_;rw[ArK s hb hN,AnW s hb hN,A0Q s hb hN];simp only[aa];rw[AiX _ ⟨fM,fM⟩,Ahu _ ⟨fM,fM⟩];simp only[aa];by_cases k1:(Q4 s==[97,99,99,116])=true;·rw[an k1,an k1];unfold AOD;split<;>rfl
 rw[aj k1,aj k1];by_cases k2:(Q4 s==[109,97,105,108,116,111])=true;·rw[an k2,an k2];unfold AO8;split<;>rfl
 rw[aj k2,aj k2];by_cases k3:(Q4 s==[104,116,116,112,115])=true
 ·have hs:=AUk hc;have hA:NP (Ac 58 s).1:=by unfold NP;simpa[Q4]using k3
  have:=Az4 (N:=N) (b:=(Ac 58 s).2.1) hA (by rw[<-hs];exact hb) hN;rw[<-hs]at this;rw[an k3,an k3,this];rfl
 rw[aj k3,aj k3];split<;>rfl
end
section
variable{N:Nat}{l:B8}
end
section
variable{N:Nat}
def AGD (k2:Unit->Option Bool): ∀suf pre:List CH,FE N (pre++suf) k2 suf (pre.length:Int)=k2 ()|[],pre=>rfl|x::t,pre=>by have ih:=AGD k2 t (pre++[x]);rw[ag,bu,aJ,fr]at ih;rw[FE,Wu,aa,an fN,show(pre.length:Int)+1=((pre.length+1:Nat):Int) by omega,ih]
def PW (d:AI):Prop:= ∀a,a∈d.l->0<=a/\a<=255
def Gy{d:AI} (hd:PW d) (hl:d.l.length<=1000){n:Nat} (h1:1<=n) (h2:n<=1000):Ok (Am N d (n:Int)) λr=>(0<=r.1/\r.1<n)/\PW r.2/\r.2.l.length<=1000:=by
 unfold Am;have hz:Ok (some ((0:Int),d)) λr=>(0<=r.1/\r.1<n)/\PW r.2/\r.2.l.length<=1000:=.ret ⟨⟨bE _,by dsimp only;omega⟩,hd,hl⟩;dsimp only[AB];cases hq:d.l with
 |nil=>exact hz
 |cons a t=>
  rw[hq]at hl;simp only[ae]at hl;obtain⟨a1,a2⟩:=hd a (by rw[hq];simp);rw[aj fP];refine Ok.ite (λ_=>hz) λ_=>?_;have e1:sub (a::t) 1 ((a::t).length:Int)=some t:=by rw[show(1:Int)=((1:Nat):Int)from rfl,Av _ 1 _ fN (av _)];simp
  rw[show idx (a::t) 0=some a from rfl,aa,e1,aa,Ak fM];refine .grd fM (.ret ⟨⟨?_,?_⟩,λb hb=>hd b (by rw[hq];simp[hb]),by dsimp only;omega⟩);·exact Int.tmod_nonneg _ a1
  ·exact Int.tmod_lt_of_pos _ fM
def Alc{d:AI} (hd:PW d) (hl:d.l.length<=1000){l:List B8} (h1:1<=l.length) (h2:l.length<=1000) (h3: ∀s,s∈l->s.length<=30):Ok (BZ N d l) λr=>r.1.length<=30/\PW r.2/\r.2.l.length<=1000:=by unfold BZ;refine .bind (Gy hd hl h1 h2) λy ⟨⟨y1,y2⟩,y3,y4⟩=>?_;refine .bind (Ok.idx y1 y2) λx AX=>.ret ⟨h3 x (ef AX),y3,y4⟩
end
end Go.VM
