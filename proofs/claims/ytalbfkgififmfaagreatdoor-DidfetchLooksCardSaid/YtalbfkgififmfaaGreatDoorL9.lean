import Derived.Test.YtalbfkgififmfaaGreatDoorL8
set_option linter.defProp false
set_option linter.unusedVariables false
set_option linter.unusedSimpArgs false
set_option maxRecDepth 100000
namespace Go.VM
section
variable{N:Nat}
theorem AF5: ∀(j k n:Nat) (s:B8),n<10^(j+1)->j<k->j<=18->s.length+(j+1)<=1000->∃r,GG N k (n:Int) s=some r/\r.length<=s.length+(j+1)
 |j,0,n,s,_,hk,_,_=>absurd hk (cr _)
 | j,k+1,n,s,hn,hk,hj,hs=>by
  have hp:10^(j+1)<=10^19:=Nat.pow_le_pow_right fO fM;have hq:((n:Int).tdiv 10)=((n / 10:Nat):Int):=by rw[bF fM];omega
  have hlt:n<10^19:=fM;have hw:wr .i64 ((n / 10:Nat):Int)=((n / 10:Nat):Int):=Ak (by have:n / 10<10^18:=fM;omega);rw[GG,hq,hw];have hl:(List.map Fg [wr .u8 (wr .i64 (48+(n:Int).tmod 10))]).length=1:=rfl;rw[Ap (by rw[hl];omega)];by_cases h0:((n / 10:Nat):Int)=0;·rw[an (be.2 h0)];exact⟨_,rfl,by rw[ag,hl];omega⟩
  ·rw[aj (by rw[be];exact h0)];match j,hn,hk,hj with
   |0,hn,_,_=>exfalso;omega
   |j+1,hn,hk,hj=>
    have h10:n / 10<10^(j+1):=by rw[Nat.pow_succ]at hn;omega
    obtain⟨r,h1,h2⟩:=AF5 j k (n / 10) (List.map Fg [wr .u8 (wr .i64 (48+(n:Int).tmod 10))]++s) h10 fM fM (by rw[ag,hl];omega);refine⟨r,h1,?_⟩;rw[ag,hl]at h2;omega
def Wi{n:Nat} (hn:n<=1000000000) (hN:100<=N):Ok (EW N (n:Int)) λr=>r.length<=10:=by obtain⟨r,h1,h2⟩:=AF5 (N:=N) 9 N n [] fM fM fM fN;exact⟨r,h1,by simpa using h2⟩
def ASu (k8:B8->Option B8){M:Nat} (hM:M<=1000000): ∀(fs:List AG) (s:B8),s.length+EQ fs+4 * fs.length<=M->∃t,Dl N k8 fs s=k8 t/\t.length=s.length+EQ fs+4 * fs.length
 |[],s,_=>⟨s,rfl,by simp[EQ]⟩
 |f::fs,s,h=>by
  have e:EQ (f::fs)=f.name.length+f.value.length+EQ fs:=by simp[EQ]
  rw[e,ae]at h;obtain⟨t,h1,h2⟩:=ASu k8 hM fs (s++(((f.name++[58,32])++f.value)++[13,10])) (by simp only[ag,ae,aq];omega);refine⟨t,?_,?_⟩;·rw[Dl,Ap (by simp only[ae,aq];omega),Ap (by simp only[ag,ae,aq];omega),Ap (by simp only[ag,ae,aq];omega),Ap (by simp only[ag,ae,aq];omega),h1]
  ·rw[h2,e];simp only[ag,ae,aq];omega
def Alj{h:AH}{d:Nat} (hd:Ok (Bp N h.l) λr=>r.length<=d) (hs:EQ h.m+4 * h.m.length+d<=900000):Ok (FC N h) λr=>r.length<=EQ h.m+4 * h.m.length+d+20:=by
 obtain⟨y,h1,h2⟩:=hd;unfold FC;have key: ∀j:B8,j.length=1->Ok (grd (AL (([72,84,84,80,47,49,46]:B8).length+j.length)) (grd (AL ((([72,84,84,80,47,49,46]:B8)++j).length+([32]:B8).length)) ((Bp N h.l).bind λy5=>grd (AL (((([72,84,84,80,47,49,46]:B8)++j)++([32]:B8)).length+y5.length)) (grd (AL ((((([72,84,84,80,47,49,46]:B8)++j)++([32]:B8))++y5).length+([32,45,13,10]:B8).length)) (grd (AL h.m.length) (Dl N (λj7=>grd (AL (j7.length+([13,10]:B8).length)) (some (j7++[13,10]))) h.m ((((([72,84,84,80,47,49,46]:B8)++j)++([32]:B8))++y5)++([32,45,13,10]:B8)))))))) λr=>r.length<=EQ h.m+4 * h.m.length+d+20:=by intro j hj;obtain⟨t,t1,t2⟩:=ASu (N:=N) (λj7=>grd (AL (j7.length+([13,10]:B8).length)) (some (j7++[13,10]))) (M:=1000000) (av _) h.m ((((([72,84,84,80,47,49,46]:B8)++j)++([32]:B8))++y)++([32,45,13,10]:B8)) (by simp only[ag,ae,aq];omega);simp only[ag,ae,aq]at t2;rw[Ap (by simp only[ae,aq];omega),Ap (by simp only[ag,ae,aq];omega),h1,aa,Ap (by simp only[ag,ae,aq];omega),Ap (by simp only[ag,ae,aq];omega),Ap fM,t1,Ap (by simp only[ae,aq];omega)];exact⟨_,rfl,by simp only[ag,ae,aq];omega⟩
 simp only[AB];by_cases h0:(h.y==0)=true;·rw[an h0];exact key [48] rfl
 ·rw[aj h0];exact key [49] rfl
def Aby (n:Nat):Ok (sub ([48,49,50,51,52,53,54,55,56,57,97,98,99,100,101,102]:B8) ((n:Int).tmod 16) (wr .i64 ((n:Int).tmod 16+1))) λx=>x.length=1:=by
 have e:(n:Int).tmod 16=((n % 16:Nat):Int):=by rw[eK fM];omega
 have w:wr .i64 (((n % 16:Nat):Int)+1)=((n % 16+1:Nat):Int):=by rw[Ak fM];omega
 rw[e,w,Av _ _ _ fM (by simp only[ae,aq];omega)];exact⟨_,rfl,by simp only[bb,aG,ae,aq];omega⟩
def Au3{n:Nat} (hn:n<=255) (hN:10<=N):Ok (Tf N (n:Int)) λr=>r.length<=2:=by
 obtain⟨k,rfl⟩: ∃k,N=k+2:=⟨N-2,fM⟩;unfold Tf;have hq:((n:Int).tdiv 16)=((n / 16:Nat):Int):=by rw[bF fM];omega
 have hw:wr .i64 ((n / 16:Nat):Int)=((n / 16:Nat):Int):=Ak fM;have hq2:(((n / 16:Nat):Int).tdiv 16)=0:=by rw[bF fM];omega
 obtain⟨x,h1,h2⟩:=Aby n;obtain⟨y,h3,h4⟩:=Aby (n / 16);rw[Jp,h1,aa,Ap (by simp only[aq];omega),hq,hw];split;·exact⟨_,rfl,fP⟩
 ·rw[Jp,h3,aa,Ap (by simp only[ag,aq];omega),hq2,an (by rfl)];exact⟨_,rfl,fP⟩
def AXS{M:Nat} (hM:M<=900000) (hN:1000000<=N) (k2:B8->Option B8): ∀(k:Nat) (a s:B8),a.length<k->s.length+a.length+6 * ((a.length+49) / 50)<=M->∃t,GK N 50 k2 k a s=k2 t/\t.length<=s.length+a.length+6 * ((a.length+49) / 50)
 |0,a,s,h,_=>absurd h (cr _)
 | k+1,a,s,h,hs=>by
  rw[GK];by_cases h0:a=[];·subst h0;exact⟨s,rfl,fN⟩
  ·have hp:0<a.length:=bS.2 h0;rw[aj (by simpa using h0)];obtain⟨n,hn,hn1,hn2,hn3⟩: ∃n:Nat,(if(a.length:Int)<(if(50:Int)>1 then 50 else 1)then(a.length:Int)else(if(50:Int)>1 then 50 else 1))=(n:Int)/\1<=n/\n<=50/\n=min a.length 50:=by refine⟨min a.length 50,?_,fM,fM,rfl⟩;rw[show(if(50:Int)>1 then(50:Int)else 1)=50 from rfl];split<;>omega
   obtain⟨x,x1,x2⟩:=Au3 (N:=N) (n:=n) fM fM;have s1:=Av a 0 n fM fM;rw[aN,bw,show((0:Nat):Int)=0 from rfl]at s1;have hl:(a.take n).length=n:=by rw[bb];omega
   simp only[hn];rw[x1,aa,Ap fM,Ap (by simp only[ag,ae,aq];omega),s1,aa,Ap (by simp only[ag,ae,aq];omega),Ap (by simp only[ag,ae,aq];omega),BP fM,aa];have hd:(a.drop n).length=a.length-n:=aG;obtain⟨t,t1,t2⟩:=AXS hM hN k2 k (a.drop n) ((((s++x)++[13,10])++a.take n)++[13,10]) fM (by simp only[ag,ae,aq];omega);refine⟨t,t1,?_⟩;simp only[ag,ae,aq]at t2;omega
def AcZ{a:B8} (ha:a.length<=100000) (hN:1000000<=N):Ok (Gx N a 50) λr=>r.length<=a.length+6 * ((a.length+49) / 50)+5:=by unfold Gx;rw[AB];obtain⟨t,h1,h2⟩:=AXS (N:=N) (M:=900000) fM hN (λj1=>grd (AL (j1.length+([48,13,10,13,10]:B8).length)) (some (j1++[48,13,10,13,10]))) N a [] fM (by simp only[aq];omega);rw[h1,Ap (by simp only[ae,aq]at h2⊢;omega)];exact⟨_,rfl,by simp only[ag,ae,aq]at h2⊢;omega⟩
def AEO (a b:List AG):EQ (a++b)=EQ a+EQ b:=by simp[EQ]
def AyC{n:Nat} (hn:n<=1000000) (hN:20<=N):Ok (Bp N (n:Int)) λr=>r.length<=13:=by unfold Bp;rw[aj (by simp only[au];omega),Fw fM];obtain⟨r,h1,h2⟩:=Ad7 (N:=N) n fM hN;rw[h1];exact⟨_,rfl,h2⟩
def AJ2{st:Nat} (hst:st<=1000000){ty body:B8}{fs:List AG} (c:Bool) (hty:ty.length<=1000) (hb:body.length<=50000) (hf:fs.length<=100) (hs:EQ fs<=10000) (hN:1000000<=N):Ok (Gg N (st:Int) ty body fs c) λr=>r.length<=ty.length+EQ fs+4 * fs.length+body.length+6 * ((body.length+49) / 50)+110:=by
 have hd:=AyC (N:=N) hst fM;have key: ∀j:List AG,j.length<=1->EQ j<=12+ty.length->Ok (grd (Af (j.length+fs.length) 32) (if c=true then grd (Af ((j++fs).length+1) 32) ((FC N (AH.mk 1 (st:Int) ((j++fs)++[(AG.mk ([116,114,97,110,115,102,101,114,45,101,110,99,111,100,105,110,103]:B8) ([99,104,117,110,107,101,100]:B8))]))).bind λy5=>(Gx N body 50).bind λy7=>grd (AL (y5.length+y7.length)) (some (y5++y7)))else(EW N (body.length:Int)).bind λy13=>grd (Af ((j++fs).length+1) 32) ((FC N (AH.mk 1 (st:Int) ((j++fs)++[(AG.mk ([99,111,110,116,101,110,116,45,108,101,110,103,116,104]:B8) y13)]))).bind λy15=>grd (AL (y15.length+body.length)) (some (y15++body))))) λr=>r.length<=ty.length+EQ fs+4 * fs.length+body.length+6 * ((body.length+49) / 50)+110:=by
  intro j hj hj2;have f1:Af (j.length+fs.length) 32:=IP fM fM;have f2:Af ((j++fs).length+1) 32:=IP (by rw[ag];omega) fM;rw[AP f1];cases c
  ·obtain⟨y,y1,y2⟩:=Wi (N:=N) (n:=body.length) fM fM;have e1:EQ ((j++fs)++[(AG.mk ([99,111,110,116,101,110,116,45,108,101,110,103,116,104]:B8) y)])=EQ j+EQ fs+(14+y.length):=by rw[Wx,AEO];rfl
   have e2:((j++fs)++[(AG.mk ([99,111,110,116,101,110,116,45,108,101,110,103,116,104]:B8) y)]).length=j.length+fs.length+1:=by simp only[ag,bu]
   obtain⟨z,z1,z2⟩:=Alj (N:=N) (h:=⟨1,(st:Int),(j++fs)++[(AG.mk ([99,111,110,116,101,110,116,45,108,101,110,103,116,104]:B8) y)]⟩) hd (by simp only[e1,e2];omega);simp only[e1,e2]at z2;rw[aj fO,y1,aa,AP f2,z1,aa,Ap fM];exact⟨_,rfl,by simp only[ag];omega⟩
  ·have e1:EQ ((j++fs)++[(AG.mk ([116,114,97,110,115,102,101,114,45,101,110,99,111,100,105,110,103]:B8) ([99,104,117,110,107,101,100]:B8))])=EQ j+EQ fs+24:=by rw[Wx,AEO];rfl
   have e2:((j++fs)++[(AG.mk ([116,114,97,110,115,102,101,114,45,101,110,99,111,100,105,110,103]:B8) ([99,104,117,110,107,101,100]:B8))]).length=j.length+fs.length+1:=by simp only[ag,bu]
   obtain⟨z,z1,z2⟩:=Alj (N:=N) (h:=⟨1,(st:Int),(j++fs)++[(AG.mk ([116,114,97,110,115,102,101,114,45,101,110,99,111,100,105,110,103]:B8) ([99,104,117,110,107,101,100]:B8))]⟩) hd (by simp only[e1,e2];omega);simp only[e1,e2]at z2;obtain⟨x,x1,x2⟩:=AcZ (N:=N) (a:=body) fM hN;rw[an rfl,AP f2,z1,aa,x1,aa,Ap fM];exact⟨_,rfl,by simp only[ag];omega⟩
 unfold Gg;simp only[AB];have f3:Af (([]:List AG).length+1) 32:=IP fN fM;by_cases h0:(ty==[])=true;·rw[an h0];exact key [] fN (by simp[EQ])
 ·rw[aj h0,AP f3];exact key [⟨[99,111,110,116,101,110,116,45,116,121,112,101],ty⟩] fN (by simp[EQ])
def Wv{u:As} (hu:K9 u) (raw:B8):Ok (El N u raw) λa=>a.raw=raw:=by unfold El;rw[ZH u ⟨hu.1.2.2.1,hu.1.2.2.2.1⟩];exact⟨_,rfl,rfl⟩
theorem AF4{h p:B8} (hh:h.length<=1000) (hp:p.length<=1000):K9 ⟨h,0,p,[],[],false,false⟩:=by refine⟨⟨⟨bE _,(by show(0:Int)<=65535;decide)⟩,by simp only;omega,by simp only;omega,aM _,aM _⟩,?_⟩;have e:Hw ⟨h,0,p,[],[],false,false⟩=([104,116,116,112,115,58,47,47]++hpF h 0)++MO ⟨h,0,p,[],[],false,false⟩:=rfl;have t:MO ⟨h,0,p,[],[],false,false⟩=p:=rfl;have l:=WU h 0;rw[e,t];simp only[ag,ae,aq];omega
def AGX (hN:1000000<=N){R:B8->Prop} (hR: ∀(st:Nat) (fs:List AG) (r:B8),(st=301\/st=302\/st=307)->fs.length<=1->EQ fs<=6000->Gg N (st:Int) [] [] fs false=some r->r.length<=7000->R r) (k2:List AK×B8×Int×B8×B8×B8×Bool×Bool×AI->Option (List AK×AI)) (P:List AK×AI->Prop) (hk: ∀(xs:List AK) (u:As) (d:AI),xs.length<=100->(∀a,a∈xs->a.raw.length<=5000/\R a.raw)->K9 u->PW d->d.l.length<=1000->Ok (k2 (xs,u.d,u.g,u.c,u.h,u.a,u.b,u.f,d)) P):∀(k i:Nat) (xs:List AK) (u:As) (d:AI),i+k<=50->xs.length<=i->(∀a,a∈xs->a.raw.length<=5000/\R a.raw)->K9 u->PW d->d.l.length<=1000->Ok (DI N k2 k (i:Int) xs u.d u.g u.c u.h u.a u.b u.f d) P
 |0,i,xs,u,d,h1,h2,h3,h4,h5,h6=>by rw[DI];exact hk xs u d fM h3 h4 h5 h6
 | k+1,i,xs,u,d,h1,h2,h3,h4,h5,h6=>by
  rw[DI];simp only[AB];refine .letL (.bind (Alc h5 h6 fO fO fO) λy ⟨hy,d1,d2⟩=>?_);refine .bind (Gy d1 d2 (n:=20) fM fM) λz ⟨⟨z0,z1⟩,e1,e2⟩=>?_;obtain⟨n,hn⟩: ∃n:Nat,z.1=(n:Int):=⟨z.1.toNat,fM⟩;rw[hn];refine .bind (Wi (N:=N) (n:=n) fM fM) λa ha=>?_;refine .grd (by unfold AL;simp only[ae,aq];omega) ?_;refine .bind (Wi (N:=N) (n:=i) fM fM) λb hb=>?_;refine .grd (by unfold AL;simp only[ag,ae,aq];omega) ?_;have hf:C8 N ⟨u.d,u.g,u.c,u.h,u.a,u.b,u.f⟩=some (Hw u):=Rz u h4.1 fM;have ht:IE N ⟨u.d,u.g,u.c,u.h,u.a,u.b,u.f⟩=some (MO u):=ZH u ⟨h4.1.2.2.1,h4.1.2.2.2.1⟩;rw[hf,aa];simp only[ht,aa];have hg:K9 ⟨y.1,0,(([47,114]:B8)++a)++b,[],[],false,false⟩:=AF4 fM (by simp only[ag,ae,aq];omega);have htl:(MO u).length<=4096:=by
   have:=h4.2;unfold Hw at this;split at this;·simp only[ag]at this;omega
   ·simp only[ag]at this;omega
  have last: ∀(loc:B8) (g:AI),loc.length<=4096->PW g->g.l.length<=1000->Ok ((Am N g 2).bind λy39=>(Gg N (wr .i64 (302+(wr .i64 (5 * y39.1)))) [] [] [(AG.mk ([108,111,99,97,116,105,111,110]:B8) loc)] false).bind λy41=>(El N (As.mk y.1 0 ((([47,114]:B8)++a)++b) [] [] false false) y41).bind λy43=>grd (Af (xs.length+1) 80) (DI N k2 k ((i:Int)+1) (xs++[y43]) y.1 0 ((([47,114]:B8)++a)++b) [] [] false false y39.2)) P:=by
   intro loc g hl g1 g2;refine .bind (Gy g1 g2 (n:=2) fM fM) λw ⟨⟨w0,w1⟩,q1,q2⟩=>?_;have hst: ∃st:Nat,wr .i64 (302+(wr .i64 (5 * w.1)))=(st:Int)/\(st=302\/st=307):=by rw[Ak (n:=5 * w.1) fM,Ak fM];exact⟨(302+5 * w.1).toNat,fM,fM⟩
   obtain⟨st,s1,s2⟩:=hst;rw[s1];obtain⟨r,hr0,hr⟩:=AJ2 (N:=N) (st:=st) fM (ty:=[]) (body:=[]) (fs:=[⟨[108,111,99,97,116,105,111,110],loc⟩]) false fO fO fN (by simp[EQ];omega) hN;rw[hr0,aa];refine .bind (Wv (N:=N) hg r) λc hc=>?_;refine .grd (IP fM fM) ?_;rw[show(i:Int)+1=((i+1:Nat):Int) by omega];refine AGX hN hR k2 P hk k (i+1) (xs++[c]) ⟨y.1,0,(([47,114]:B8)++a)++b,[],[],false,false⟩ w.2 fM fP ?_ hg q1 q2;intro v hv;rcases aZ.1 hv with hv|hv;·exact h3 v hv
   ·rw[aV.1 hv,hc];have hr':=hr;simp[EQ]at hr';exact⟨fM,hR st _ r fM fN (by simp[EQ];omega) hr0 fM⟩
  refine .bind (Gy e1 e2 (n:=20) fM fM) λt ⟨_,t1,t2⟩=>?_;have c1:([104,116,116,112,58,47,47,97,46,101,120,97,109,112,108,101,47]:B8).length<=4096:=fO;have c2:([63]:B8).length<=4096:=fO;have c3:=h4.2;refine .ite (λ_=>?_) λ_=>.ite (λ_=>?_) λ_=>?_;·refine .ite (λ_=>.bind (Gy t1 t2 (n:=2) fM fM) λv ⟨hv,v1,v2⟩=>.ite (λ_=>last _ _ htl v1 v2) λ_=>last _ _ c1 v1 v2) λ_=>?_;simp only[ap,aA];exact last _ _ c1 t1 t2
  ·refine .ite (λ_=>.bind (Gy t1 t2 (n:=2) fM fM) λv ⟨hv,v1,v2⟩=>.ite (λ_=>last _ _ htl v1 v2) λ_=>last _ _ c2 v1 v2) λ_=>?_;simp only[ap,aA];exact last _ _ c2 t1 t2
  ·refine .ite (λ_=>.bind (Gy t1 t2 (n:=2) fM fM) λv ⟨hv,v1,v2⟩=>.ite (λ_=>last _ _ htl v1 v2) λ_=>last _ _ c3 v1 v2) λ_=>?_;simp only[ap,aA];exact last _ _ c3 t1 t2
def Aui (hN:1000000<=N){R:B8->Prop} (hR: ∀(st:Nat) (fs:List AG) (r:B8),(st=301\/st=302\/st=307)->fs.length<=1->EQ fs<=6000->Gg N (st:Int) [] [] fs false=some r->r.length<=7000->R r){n:Nat} (hn:n<=49){u:As} (hu:K9 u){d:AI} (hd:PW d) (hl:d.l.length<=1000):Ok (KF N d u (n:Int)) λr=>(1<=r.1.length/\r.1.length<=101/\(∀a,a∈r.1->a.raw.length<=5000)/\∀a,a∈r.1.take (r.1.length-1)->R a.raw)/\PW r.2/\r.2.l.length<=1000:=by
 unfold KF;rw[AB];refine .grd fM ?_;rw[show((n:Int)-0).toNat=n by omega,show(0:Int)=((0:Nat):Int)from rfl];refine AGX hN hR _ _ ?_ n 0 [] u d fM fN fN hu hd hl;intro xs v g h1 h2 h3 h4 h5;have hf:C8 N ⟨v.d,v.g,v.c,v.h,v.a,v.b,v.f⟩=some (Hw v):=Rz v h3.1 fM;simp only[hf,aa];refine .bind (Wv (N:=N) ABJ (Hw v)) λc hc=>?_;refine .grd (IP fM fM) (.ret ⟨⟨fN,fP,?_,?_⟩,h4,h5⟩);rotate_left;·intro a ha;have:(xs++[c]).take ((xs++[c]).length-1)=xs:=fN;rw[this]at ha;exact(h2 a ha).2
 intro a ha;rcases aZ.1 ha with ha|ha;·exact(h2 a ha).1
 ·rw[aV.1 ha,hc];have:=h3.2;omega
def Avw (hN:1000000<=N){R:B8->Prop} (hR: ∀(st:Nat) (fs:List AG) (r:B8),(st=301\/st=302\/st=307)->fs.length<=1->EQ fs<=6000->Gg N (st:Int) [] [] fs false=some r->r.length<=7000->R r){u:As} (hu:K9 u){raw:B8} (hr:R raw){d:AI} (hd:PW d) (hl:d.l.length<=1000):Ok (PH N d u raw) λr=>(r.1.length<=200/\∀a,a∈r.1->R a.raw)/\PW r.2/\r.2.l.length<=1000:=by
 unfold PH;simp only[AB,AHc];have main: ∀(n:Int) (g:AI),0<=n->n<7->PW g->g.l.length<=1000->Ok (if(n==0)=true then(El N u raw).bind λy9=>some ([y9],g)else letL ([([97,46,101,120,97,109,112,108,101]:B8),([101,46,101,120,97,109,112,108,101]:B8)]:(List B8)) λl11=>(BZ N g l11).bind λy12=>(Am N y12.2 9).bind λy14=>(EW N y14.1).bind λy16=>grd (AL (([47,101,110,100]:B8).length+y16.length)) ((KF N y14.2 (As.mk y12.1 0 (([47,101,110,100]:B8)++y16) [] [] false false) (wr .i64 (n-1))).bind λy18=>(idx y18.1 (wr .i64 ((y18.1.length:Int)-1))).bind λx20=>(sub y18.1 0 (wr .i64 ((y18.1.length:Int)-1))).bind λx21=>(El N (As.mk y12.1 0 (([47,101,110,100]:B8)++y16) [] [] false false) raw).bind λy22=>grd (Af (x21.length+1) 80) ((Gg N 301 [] [] [(AG.mk ([108,111,99,97,116,105,111,110]:B8) x20.raw)] false).bind λy24=>(El N u y24).bind λy26=>grd (Af ((x21++[y22]).length+1) 80) (some (((x21++[y22])++[y26]),y18.2))))) λr=>(r.1.length<=200/\∀a,a∈r.1->R a.raw)/\PW r.2/\r.2.l.length<=1000:=by
  intro n g n0 n7 g1 g2;refine .ite (λ_=>.bind (Wv (N:=N) hu raw) λc hc=>.ret ⟨⟨fN,λa ha=>by rw[aV.1 ha,hc];exact hr⟩,g1,g2⟩) λhne=>?_;have hn0:n≠0:=by simpa using hne
  refine .letL (.bind (Alc g1 g2 fO fO fO) λy ⟨hy,d1,d2⟩=>?_);refine .bind (Gy d1 d2 (n:=9) fM fM) λz ⟨⟨z0,z1⟩,e1,e2⟩=>?_;obtain⟨m,hm⟩: ∃m:Nat,z.1=(m:Int):=⟨z.1.toNat,fM⟩;rw[hm];refine .bind (Wi (N:=N) (n:=m) fM fM) λa ha=>?_;refine .grd (by unfold AL;simp only[ae,aq];omega) ?_;have hg:K9 ⟨y.1,0,([47,101,110,100]:B8)++a,[],[],false,false⟩:=AF4 fM (by simp only[ag,ae,aq];omega);obtain⟨q,hq⟩: ∃q:Nat,n-1=(q:Int):=⟨(n-1).toNat,fM⟩;rw[Ak (n:=n-1) fM,hq];refine .bind (Aui hN hR (n:=q) fM hg e1 e2) λw ⟨⟨w1,w2,w3,w4⟩,f1,f2⟩=>?_;have hw:wr .i64 ((w.1.length:Int)-1)=((w.1.length-1:Nat):Int):=by rw[Ak fM];omega
  have hx:idx w.1 ((w.1.length-1:Nat):Int)=some w.1[w.1.length-1]:=by rw[D7];exact aS fM
  have hs:=Av w.1 0 (w.1.length-1) fM fM;rw[aN,bw,show((0:Nat):Int)=0 from rfl]at hs;rw[hw,hx,aa,hs,aa];have hraw:=w3 w.1[w.1.length-1] (List.getElem_mem _);have hlen:(w.1.take (w.1.length-1)).length<=101:=by rw[bb];omega
  refine .bind (Wv (N:=N) hg raw) λc hc=>?_;refine .grd (IP fM fM) ?_;rw[show(301:Int)=((301:Nat):Int)from rfl];obtain⟨r,hr0,hr2⟩:=AJ2 (N:=N) (st:=301) fM (ty:=[]) (body:=[]) (fs:=[⟨[108,111,99,97,116,105,111,110],w.1[w.1.length-1].raw⟩]) false fO fO fN (by simp[EQ];omega) hN;rw[hr0,aa];refine .bind (Wv (N:=N) hu r) λv hv=>?_;refine .grd (IP (by simp only[ag,bu];omega) fM) (.ret ⟨⟨by simp only[ag,bu];omega,?_⟩,f1,f2⟩);intro b hb;rcases aZ.1 hb with hb|hb
  ·rcases aZ.1 hb with hb|hb;·exact w4 b hb
   ·rw[aV.1 hb,hc];exact hr
  ·rw[aV.1 hb,hv];have hr':=hr2;simp[EQ]at hr';exact hR 301 _ r fM fN (by simp[EQ];omega) hr0 fM
 refine .bind (Gy hd hl (n:=3) fM fM) λy ⟨_,d1,d2⟩=>?_;refine .ite (λ_=>?_) λ_=>main 0 _ fM fM d1 d2;exact .bind (Gy d1 d2 (n:=7) fM fM) λz ⟨⟨z0,z1⟩,e1,e2⟩=>main z.1 _ z0 fM e1 e2
def AAw:B8:=[97,99,99,116,58,111,116,104,101,114,64,97,46,101,120,97,109,112,108,101]
def A2Q:List B8:=[[104,116,116,112,115,58,47,47,97,46,101,120,97,109,112,108,101,47,102,47],[104,116,116,112,115,58,47,47,98,46,101,120,97,109,112,108,101,47,120,63,121,35,122],[104,116,116,112,58,47,47,99,46,101,120,97,109,112,108,101,47],[110,111,116,104,105,110,103]]
def A21 (ab e:B8):List Cp:=[(Cp.mk (ab++([35,102,105,108,101,115]:B8)) [([70]:B8)] [e]),(Cp.mk (ab++([35,107]:B8)) [([75]:B8)] [([104,116,116,112,115,58,47,47,100,46,101,120,97,109,112,108,101]:B8)])]
def X3 (ab:B8):List (List Cp):=[]::A2Q.map (A21 ab)
def AVe{d:AI} (hd:Gd d){ab:B8} (hl:ab.length<=1000):Ok (Ns N d ab) λr=>r.1∈X3 ab/\Gd r.2:=by unfold Ns;refine .bind (XR hd (n:=3) fO) λy ⟨_,y1⟩=>?_;refine .ite (λ_=>.ret ⟨dQ,y1⟩) λ_=>?_;refine ACB (by simp only[ae,aq];omega) ?_;refine .letL (.bind (oneG y1 fO) λz ⟨z1,z2⟩=>?_);refine ACB (by simp only[ae,aq];omega) (.letL (.ret ⟨?_,z2⟩));exact aY _ (bv.2 ⟨z.1,z1,rfl⟩)
def ADV (N:Nat) (ab:B8) (names:List B8) (sv:List Cp):Option B8:=(PN N (Cd.mk ab names [] [] sv)).bind λv=>(Sz N v).bind λy=>some y.1
def AyD:B8:=[123,34,115,117,98,106,101,99,116,34,58]
def A0F:B8:=[123,34,105,100,34,58,49,44,34,108,105,110,107,115,34,58,91,123,125,93,125]
def A1j:B8:=[97,112,112,108,105,99,97,116,105,111,110,47,100,105,100,43,106,115,111,110]
def ABD:B8:=[97,112,112,108,105,99,97,116,105,111,110,47,106,114,100,43,106,115,111,110]
def AD7:B8:=[116,101,120,116,47,104,116,109,108]
def Axg:B8:=[97,112,112,108,105,99,97,116,105,111,110,47,106,115,111,110]
def KR:List B8:=[A1j,ABD,AD7,Axg,[]]
def kD1:Axg∈KR/\ABD∈KR/\ABD∈[ABD,AD7,([]:B8)]/\AD7∈[ABD,AD7,([]:B8)]/\([]:B8)∈[ABD,AD7,[]]:=fO
def AdQ{id:AD} (hk:id.kind=4){names:List B8}{P:B8->Prop} (H: ∀ab,ab∈[id.text,AAw]->∀sv,sv∈X3 ab->Ok (ADV N ab names sv) P) (h1:P AyD) (h2:P A0F) (hlen:id.text.length<=1000){d:AI} (hd:Gd d):Ok (NZ N d id names) λr=>P r.1/\r.2.1∈KR/\Gd r.2.2:=by
 unfold NZ;refine .meet (λj=>j.1∈[id.text,AAw]/\j.2.1∈[ABD,AD7,[]]/\Gd j.2.2) (λj ⟨j1,j2,j3⟩=>?_) λk hk'=>?_
 ·refine .meet (λi=>(∃sv,sv∈X3 j.1/\PN N (Cd.mk j.1 names [] [] sv)=some i.2.1)/\i.1∈KR/\Gd i.2.2) (λi ⟨⟨sv,i1,i2⟩,i3,i4⟩=>?_) λk8 hk8=>?_;·obtain⟨b,e1,e2⟩:=H j.1 j1 sv i1;unfold ADV at e1;rw[i2,aa]at e1;obtain⟨y,e3,e4⟩:=db.1 e1;cases e4;exact .bind ⟨y,e3,rfl⟩ λy' hy=>.ret (by subst hy;exact⟨e2,i3,i4⟩)
  ·refine .ite (λ_=>?_) λhne=>absurd hk (by simpa using hne);have hjl:j.1.length<=1000:=by
    rcases aO.1 j1 with h|h;·rw[h];exact hlen
    ·rw[aV.1 h];decide
   refine .bind (AVe j3 hjl) λy ⟨y1,y2⟩=>?_;obtain⟨b,e1,e2⟩:=H j.1 j1 y.1 y1;unfold ADV at e1;obtain⟨v,e3,e4⟩:=db.1 e1;refine .bind ⟨v,e3,rfl⟩ λv' hv=>?_;subst hv;refine .letL (.bind (oneG y2 fN) λz ⟨z1,z2⟩=>?_);refine .ite (λ_=>hk8 _ ⟨⟨y.1,y1,e3⟩,kD1.1,z2⟩) λ_=>hk8 _ ⟨⟨y.1,y1,e3⟩,?_,z2⟩;rcases aO.1 z1 with h|h;·rw[h];decide
   ·rw[aV.1 h];revert j2;generalize j.2.1=t;have: ∀s,s∈[ABD,AD7,([]:B8)]->s∈KR:=fO;exact this t
 ·refine .bind (XR hd (n:=24) fO) λy ⟨_,y1⟩=>?_;refine .ite (λ_=>hk' _ ⟨by simp[AAw],kD1.2.2.1,y1⟩) λ_=>.ite (λ_=>.ret ⟨h1,kD1.2.1,y1⟩) λ_=>.ite (λ_=>hk' _ ⟨fN,kD1.2.2.2.1,y1⟩) λ_=>.ite (λ_=>.ret ⟨h2,kD1.2.1,y1⟩) λ_=>.ite (λ_=>hk' _ ⟨fN,kD1.2.2.2.2,y1⟩) λ_=>hk' _ ⟨fN,kD1.2.2.1,y1⟩
def Ox (ls:List B8):B8:=ls.flatMap λx=>x++Bj
def Dz (x:B8) (ls:List B8):Ox (x::ls)=x++(Bj++Ox ls):=by simp[Ox]
def Rc{q t:B8}: ∀ {x:B8},(∀c,c∈x->c≠13)->Dc (13::q) (x++t)=(Dc (13::q) t).map (· +x.length)
 |[],_=>by simp
 | c::x,h=>by
  have hc:=h c fN;have hp:List.isPrefixOf (13::q) (c::(x++t))=false:=by
   have:((13:UInt8)==c)=false:=by simpa using λe=>hc e.symm
   simp[List.isPrefixOf,this]
  show(if List.isPrefixOf (13::q) (c::(x++t))=true then some 0 else(Dc (13::q) (x++t)).map (· +1))=_;rw[hp,aj fO,Rc λd hd=>h d (by simp[hd]),fC];congr 1
def AAP{x t:B8} (h: ∀c,c∈x->c≠13):J3 (x++(Bj++t))=(x,t,true):=by
 unfold J3;have:Dc Bj (x++(Bj++t))=some x.length:=by
  show Dc (13::[10]) (x++(Bj++t))=_;rw[Rc h];have:Dc (13::[10]) (Bj++t)=some 0:=by show(if List.isPrefixOf [13,10] (13::10::t)=true then some 0 else _)=_;rw[an (by simp[List.isPrefixOf])]
  rw[this];simp
 rw[this];simp[Bj]
def AAY{x:B8} (h: ∀c,c∈x->c≠13):J3 x=(x,[],false):=by
 unfold J3;have:Dc Bj x=none:=by have e:Dc (13::[10]) (x++[])=(Dc (13::[10]) []).map (· +x.length):=Rc h;rw[bm]at e;exact e
 rw[this]
def AWf: ∀ls:List B8,ls≠ []->2<=(Ox ls).length|x::ls,_=>by rw[Dz];simp only[Bj,ag,ae,aq];omega
def ACw (x:B8):Prop:=x≠ []/\ ∀c,c∈x->c≠13
def Axd: ∀(ls:List B8) (b:B8),ls≠ []->(∀x,x∈ls->ACw x)->Dc [13,10,13,10] (Ox ls++(Bj++b))=some ((Ox ls).length-2)
 |[x],b,_,h=>by
  rw[Dz,show Ox []=[]from rfl,bm,aJ,Rc (h x fN).2];have:Dc [13,10,13,10] (Bj++(Bj++b))=some 0:=by show(if List.isPrefixOf [13,10,13,10] (13::10::13::10::b)=true then some 0 else _)=_;rw[an (by simp[List.isPrefixOf])]
  rw[this];simp[Bj]
 | x::y::r,b,_,h=>by
  have ih:=Axd (y::r) b fN λz hz=>h z (by simp[hz]);have h2:=AWf (y::r) fN;rw[Dz,aJ,aJ,Rc (h x fN).2];obtain⟨hy,hy2⟩:=h y fN;obtain⟨c,y',rfl⟩: ∃c y',y=c::y':=by cases y with|nil=>exact absurd rfl hy|cons c y'=>exact⟨c,y',rfl⟩
  have hc:=hy2 c fN;have e1: ∀Z:B8,Dc [13,10,13,10] (Bj++(c::Z))=(Dc [13,10,13,10] (c::Z)).map (· +2):=by
   intro Z;have hc':((13:UInt8)==c)=false:=by simpa using λe=>hc e.symm
   have p1:List.isPrefixOf [13,10,13,10] (13::10::c::Z)=false:=by simp[List.isPrefixOf,hc']
   have p2:List.isPrefixOf [13,10,13,10] (10::c::Z)=false:=by simp[List.isPrefixOf]
   show(if List.isPrefixOf [13,10,13,10] (13::10::c::Z)=true then some 0 else(if List.isPrefixOf [13,10,13,10] (10::c::Z)=true then some 0 else(Dc [13,10,13,10] (c::Z)).map (· +1)).map (· +1))=_;rw[p1,p2,aj fO,aj fO,fC];congr 1
  have e2:Ox ((c::y')::r)++(Bj++b)=c::(y'++(Bj++Ox r)++(Bj++b)):=by rw[Dz];simp
  rw[e2]at ih⊢;rw[e1,ih];simp only[aP,ah,ag,Bj,ae,aq];omega
def ACE: ∀ls:List B8,ls≠ []->∃l,Ox ls=l++Bj|[x],_=>⟨x,by rw[Dz];rfl⟩|x::y::r,_=>by obtain⟨l,hl⟩:=ACE (y::r) fN;exact⟨x++(Bj++l),by rw[Dz,hl];simp⟩
def Gh (f:AG):B8:=f.name++([58,32]++f.value)
def Uj (f:AG):Prop:=AM9 (Gh f)=some f/\ACw (Gh f)
def ABG (k11:List AG->Option (AH×Int×Int)) (hN:1000010<N): ∀(F fs:List AG) (k:Nat),F.length<k->fs.length+F.length<=64->(∀f,f∈F->Uj f)->(Ox (F.map Gh)).length<=1000000->CK N k11 k (Ox (F.map Gh)) fs=k11 (fs++F)
 |[],fs,k+1,_,_,_,_=>by
  have e2:CK N k11 (k+1) [] fs=k11 fs:=by unfold CK;rfl
  rw[bm];exact e2
 | f::F,fs,k+1,hk,hl,hF,hb=>by
  obtain⟨f1,f2⟩:=hF f fN;simp only[ae]at hk hl;have ih:=ABG k11 hN F (fs++[f]) k fM fP (λg hg=>hF g (by simp[hg])) (by rw[aH,Dz]at hb;simp only[ag]at hb;omega);rw[aJ]at ih;cases F with
  |nil=>
   have e:Ox ([f].map Gh)=Gh f++Bj:=by rw[aH,Dz];rfl
   rw[e]at hb⊢;rw[AKK k11 k fs (by simp only[ag]at hb;omega) hN,aj fM,AAY f2.2];simp only[f1];exact ih
  |cons g G=>
   obtain⟨l,hl'⟩:=ACE ((g::G).map Gh) fN;have e:Ox ((f::g::G).map Gh)=(Gh f++(Bj++l))++Bj:=by rw[aH,Dz,hl'];simp
   rw[e]at hb⊢;rw[AKK k11 k fs (by simp only[ag]at hb⊢;omega) hN,aj fM,AAP f2.2];simp only[f1];have:AWi (Gh f,l,true)=Ox ((g::G).map Gh):=by rw[hl'];rfl
   rw[this];exact ih
def Ahb{sl:B8}{st:AH} (hs:PZ sl=some st) (hg:ACw sl){F:List AG} (hF: ∀f,f∈F->Uj f) (hl:F.length<=64) (b:B8) (hb:(Ox (sl::F.map Gh)++(Bj++b)).length<=16384) (hN:1000010<N):EF N (Ox (sl::F.map Gh)++(Bj++b))=some (⟨st.y,st.l,F⟩,(((Ox (sl::F.map Gh)).length+2:Nat):Int),0):=by
 have hfind:=Axd (sl::F.map Gh) b fN λx hx=>by
  rcases aO.1 hx with rfl|h;·exact hg
  ·obtain⟨f,h1,rfl⟩:=bv.1 h;exact(hF f h1).2
 have h2:=AWf (sl::F.map Gh) fN;obtain⟨l0,hl0⟩:=ACE (sl::F.map Gh) fN;have hcut:(J3 l0).1=sl/\AWi (J3 l0)=Ox (F.map Gh):=by
  cases F with
  | nil=>
   have:l0=sl:=by
    have e:Ox (sl::([]:List AG).map Gh)=sl++Bj:=by rw[Dz];rfl
    rw[e]at hl0;exact(fa hl0).symm
   rw[this,AAY hg.2];exact⟨rfl,rfl⟩
  | cons f F=>
   obtain⟨l,hl'⟩:=ACE ((f::F).map Gh) fN;have:l0=sl++(Bj++l):=by
    have e:Ox (sl::(f::F).map Gh)=(sl++(Bj++l))++Bj:=by rw[Dz,hl'];simp
    rw[e]at hl0;exact(fa hl0).symm
   rw[this,AAP hg.2];exact⟨rfl,hl'.symm⟩
 generalize hT:Ox (sl::F.map Gh)=T at *;generalize hL:T++(Bj++b)=l at *;have hle:T.length+2+b.length=l.length:=by rw[<-hL];simp only[Bj,ag,ae,aq];omega
 unfold EF;have s0:sub l 0 (if 16384<(l.length:Int)then 16384 else(l.length:Int))=some l:=by rw[aj fM];have:=Av l 0 l.length fM fM;rwa[aN,bw,c9]at this
 have hr:Hz N l [13,10,13,10]=some (((T.length-2:Nat)):Int):=by rw[VR fN (by simp only[ae,aq];omega) fM];unfold TE;rw[hfind]
 have hneg:decide (((T.length-2:Nat):Int)<0)=false:=aF fM;have w2:wr .i64 (((T.length-2:Nat):Int)+2)=((T.length:Nat):Int):=by rw[Ak fM];omega
 have w4:wr .i64 (((T.length-2:Nat):Int)+4)=((T.length+2:Nat):Int):=by rw[Ak fM];omega
 have r4:sub l 0 ((T.length:Nat):Int)=some (l0++Bj):=by have:=Av l 0 T.length fM fM;rw[aN,bw,show((0:Nat):Int)=0 from rfl]at this;rw[this,<-hL,eN,hl0]
 have hl0l:l0.length<=16384:=by have:=br List.length hl0;simp only[ag]at this;omega
 obtain⟨n,hn1,hn2,hn3⟩:=ACy (l:=l0) fM;have hfn:Hz N (l0++Bj) [13,10]=some (n:Int):=by rw[<-hn1];exact VR fN (by simp[Bj];omega) (by simp[Bj];omega)
 obtain⟨X,hX,hX2⟩:=AWa (N:=N) (l:=(J3 l0).1) (by rw[hcut.1];have:=Za l0;rw[hcut.1]at this;omega);rw[hcut.1]at hX hX2;have hok:=AUu hs;rw[s0,aa,hr,aa];simp only[AB,hneg,w2,w4,ap,aA,r4,aa,hfn,hn2,hn3,hcut.1,hcut.2,hX,hs,cj,bo];rw[hX2 st hs,hok.2.2.2];rw[ABG _ hN F [] N fM (by simpa using hl) hF (by have e:=Dz sl (F.map Gh);rw[hT]at e;have:=br List.length e;simp only[ag]at this;omega)];rfl
def AZ0{sl:B8}{st:AH} (hs:PZ sl=some st) (hg:ACw sl){t:B8} (hb:(sl++(Bj++t)).length<=16384) (hN:1000010<N){h:AH}{n:Int} (hp:EF N (sl++(Bj++t))=some (h,n,0)):h.l=st.l:=by
 obtain⟨_,r,h2,_,h4⟩:=ABK (N:=N) (l:=sl++(Bj++t)) fM hN;rw[hp]at h2;cases h2;obtain⟨k,h0,e1,e2,e3⟩:=h4 rfl;rw[bc hb,Rc hg.2]at e1;obtain⟨j,j1,j2⟩:=aX.1 e1;have hk:(J3 ((sl++(Bj++t)).take k)).1=sl:=by
  rw[<-j2,eG,List.take_length_add_append];have hj:j=0\/2<=j:=by
   change (if List.isPrefixOf [13,10,13,10] (13::10::t)=true then some 0 else(Dc [13,10,13,10] (10::t)).map (· +1))=some j at j1;split at j1;·cases j1;exact .inl rfl
   ·have p2:List.isPrefixOf [13,10,13,10] (10::t)=false:=by simp[List.isPrefixOf]
    change Option.map (· +1) (if List.isPrefixOf [13,10,13,10] (10::t)=true then some 0 else(Dc [13,10,13,10] t).map (· +1))=some j at j1;rw[p2,aj fO,fC]at j1;obtain⟨i,_,i2⟩:=aX.1 j1;simp only[Function.comp]at i2;exact .inr fM
  rcases hj with rfl|hj;·rw[dy,bm,AAY hg.2]
  ·obtain⟨i,rfl⟩: ∃i,j=i+2:=⟨j-2,fM⟩;have:(Bj++t).take (i+2)=Bj++t.take i:=by simp[Bj]
   rw[this,AAP hg.2]
 rw[hk,hs]at e2;cases e2;exact e3
def ctN:B8:=[99,111,110,116,101,110,116,45,116,121,112,101]
def clN:B8:=[99,111,110,116,101,110,116,45,108,101,110,103,116,104]
def teN:B8:=[116,114,97,110,115,102,101,114,45,101,110,99,111,100,105,110,103]
def chV:B8:=[99,104,117,110,107,101,100]
def Sd (y:B8):B8:=[72,84,84,80,47,49,46,49,32]++(y++[32,45])
def AGT (k8:B8->Option B8){M:Nat} (hM:M<=1000000): ∀(fs:List AG) (s:B8),s.length+EQ fs+4 * fs.length<=M->Dl N k8 fs s=k8 (s++Ox (fs.map Gh))
 |[],s,_=>by rw[Dl];simp[Ox]
 |f::fs,s,h=>by
  have e:EQ (f::fs)=f.name.length+f.value.length+EQ fs:=by simp[EQ]
  rw[e,ae]at h;rw[Dl,Ap (by simp only[ae,aq];omega),Ap (by simp only[ag,ae,aq];omega),Ap (by simp only[ag,ae,aq];omega),Ap (by simp only[ag,ae,aq];omega),AGT k8 hM fs _ (by simp only[ag,ae,aq];omega),aH,Dz];simp[Gh,Bj]
def AmB{st:Int}{y:B8} (hy:Bp N st=some y) (hyl:y.length<=100){F:List AG} (hs:EQ F+4 * F.length<=800000):FC N ⟨1,st,F⟩=some (Ox (Sd y::F.map Gh)++Bj):=by
 unfold FC;simp only[AB];rw[aj fO,Ap (by simp only[ae,aq];omega),Ap (by simp only[ag,ae,aq];omega),hy,aa,Ap (by simp only[ag,ae,aq];omega),Ap (by simp only[ag,ae,aq];omega),Ap fM,AGT _ (M:=1000000) (av _) F _ (by simp only[ag,ae,aq];omega)];have hl:(Ox (F.map Gh)).length=EQ F+4 * F.length:=by clear hs;induction F with|nil=>rfl|cons f F ih=>rw[aH,Dz,show EQ (f::F)=f.name.length+f.value.length+EQ F by simp[EQ]];simp only[ag,ih,Gh,Bj,ae,aq];omega
 rw[Ap (by simp only[ag,ae,aq,hl];omega),Dz];simp[Sd,Bj]
def tyF (ty:B8):List AG:=if(ty==[])=true then []else [⟨ctN,ty⟩]
def A3e (N:Nat) (y ty body:B8) (fs:List AG) (c:Bool) (r:B8):Prop:=∃F tail,r=Ox (Sd y::F.map Gh)++(Bj++tail)/\if c=true then F=tyF ty++fs++[⟨teN,chV⟩]/\Gx N body 50=some tail else∃d,EW N (body.length:Int)=some d/\F=tyF ty++fs++[⟨clN,d⟩]/\tail=body
theorem A2a{st:Int}{y:B8} (hy:Bp N st=some y) (hyl:y.length<=100){ty body:B8}{fs:List AG} (c:Bool) (hty:ty.length<=1000) (hb:body.length<=50000) (hf:fs.length<=100) (hs:EQ fs<=10000) (hN:1000000<=N):Ok (Gg N st ty body fs c) (A3e N y ty body fs c):=by
 have ht:(tyF ty).length<=1/\EQ (tyF ty)<=12+ty.length:=by
  unfold tyF;split;·exact⟨aM _,by simp[EQ]⟩
  ·exact⟨av _,by simp[EQ,ctN]⟩
 have key:Gg N st ty body fs c=(if c=true then(FC N (AH.mk 1 st ((tyF ty++fs)++[⟨teN,chV⟩]))).bind λy5=>(Gx N body 50).bind λy7=>grd (AL (y5.length+y7.length)) (some (y5++y7))else(EW N (body.length:Int)).bind λy13=>(FC N (AH.mk 1 st ((tyF ty++fs)++[⟨clN,y13⟩]))).bind λy15=>grd (AL (y15.length+body.length)) (some (y15++body))):=by
  unfold Gg;simp only[AB];have f1: ∀j:List AG,j.length<=1->Af (j.length+fs.length) 32:=λj hj=>IP fM fM;have f2: ∀j:List AG,j.length<=1->Af ((j++fs).length+1) 32:=λj hj=>IP (by simp only[ag];omega) fM;unfold tyF;by_cases h0:(ty==[])=true;·rw[an h0,an h0,AP (f1 [] fN)];have g: ∀x:Option B8,grd (Af ((([]:List AG)++fs).length+1) 32) x=x:=λx=>AP (f2 [] fN);simp only[g];rfl
  ·rw[aj h0,aj h0,AP (IP fN fM),AP (f1 _ fN)];have g: ∀x:Option B8,grd (Af (([⟨ctN,ty⟩]++fs:List AG).length+1) 32) x=x:=λx=>AP (f2 _ fN);unfold ctN at g;simp only[g];rfl
 rw[key];have hF: ∀f:AG,f.name.length+f.value.length<=1000->EQ ((tyF ty++fs)++[f])+4 * ((tyF ty++fs)++[f]).length<=800000:=by intro f hf';rw[Wx,AEO];simp only[ag,bu];omega
 refine .ite (λhc=>?_) λhc=>?_
 ·obtain⟨E,e1,e2⟩:=AcZ (N:=N) (a:=body) fM hN;rw[AmB hy hyl (hF _ fO),aa,e1,aa];have hl: ∀F:List AG,(Ox (F.map Gh)).length=EQ F+4 * F.length:=by intro F;induction F with|nil=>rfl|cons f F ih=>rw[aH,Dz,show EQ (f::F)=f.name.length+f.value.length+EQ F by simp[EQ]];simp only[ag,ih,Gh,Bj,ae,aq];omega
  have:=hF ⟨teN,chV⟩ fO;rw[Ap (by rw[Dz];simp only[ag,hl,Sd,Bj,ae,aq]at this⊢;omega)];exact .ret ⟨_,E,by rw[aJ],by rw[an hc];exact⟨rfl,e1⟩⟩
 ·obtain⟨d,e1,e2⟩:=Wi (N:=N) (n:=body.length) fM fM;rw[e1,aa,AmB hy hyl (hF _ (by show clN.length+d.length<=1000;have:clN.length=14:=rfl;omega)),aa];have hl: ∀F:List AG,(Ox (F.map Gh)).length=EQ F+4 * F.length:=by intro F;induction F with|nil=>rfl|cons f F ih=>rw[aH,Dz,show EQ (f::F)=f.name.length+f.value.length+EQ F by simp[EQ]];simp only[ag,ih,Gh,Bj,ae,aq];omega
  have:=hF ⟨clN,d⟩ (by show clN.length+d.length<=1000;have:clN.length=14:=rfl;omega);rw[Ap (by rw[Dz];simp only[ag,hl,Sd,Bj,ae,aq]at this⊢;omega)];exact .ret ⟨_,body,by rw[aJ],by rw[hc,aj fO];exact⟨d,e1,rfl,rfl⟩⟩
def AkR (N:Nat) (raw:B8):Prop:= ∀h n b,EF N raw=some (h,n,0)->H7 N h (raw.drop n.toNat) 1048576=some (b,0)->h.l≠200
def Abx{st:Int}{y:B8} (hy:Bp N st=some y) (hyl:y.length<=100) (hg:ACw (Sd y)){h0:AH} (hs:PZ (Sd y)=some h0) (h200:h0.l≠200){ty body:B8}{fs:List AG}{c:Bool} (hty:ty.length<=1000) (hb:body.length<=50000) (hf:fs.length<=100) (hs':EQ fs<=10000) (hN:1000011<=N){r:B8} (hr:Gg N st ty body fs c=some r) (hl:r.length<=16384):AkR N r:=by intro h n b hp _;obtain⟨r',e1,F,tail,e2,_⟩:=A2a (N:=N) hy hyl c hty hb hf hs' fM;rw[hr]at e1;cases e1;rw[Dz]at e2;rw[e2,aJ,aJ]at hp hl;rw[AZ0 hs hg hl fM hp];exact h200
def AoZ{raw:B8}{h0:AH}{n0 e0:Int} (hp:EF N raw=some (h0,n0,e0)) (hr:e0≠0\/∃b0 e1,H7 N h0 (raw.drop n0.toNat) 1048576=some (b0,e1)/\e1≠0):AkR N raw:=by
 intro h n b h1 h2;rw[hp]at h1;cases h1;rcases hr with hr|⟨b0,e1,h3,h4⟩;·exact absurd rfl hr
 ·rw[h3]at h2;cases h2;exact absurd rfl h4
def ccN:B8:=[99,97,99,104,101,45,99,111,110,116,114,111,108]
def agN:B8:=[97,103,101]
def ccL:List B8:=[[109,97,120,45,97,103,101,61,49,48,48],[109,97,120,45,97,103,101,61,49,48,48,48,44,32,112,117,98,108,105,99],[109,97,120,45,97,103,101,61,53],[109,97,120,45,97,103,101,61,57,57,57,57,57,57,57,57,57],[110,111,45,115,116,111,114,101,44,32,109,97,120,45,97,103,101,61,57],[112,114,105,118,97,116,101],[109,97,120,45,97,103,101,61,120]]
def agL:List B8:=[[52,48],[51],[49,48,48,48],[121]]
def Vf:List (List AG):=ccL.flatMap λv=>[⟨ccN,v⟩]::agL.map λw=>[⟨ccN,v⟩,⟨agN,w⟩]
def A1q{d:AI} (hd:Gd d):Ok (PV N d) λr=>r.1∈Vf/\Gd r.2:=by
 unfold PV;refine .letL (.bind (oneG hd fO) λy ⟨y1,y2⟩=>?_);simp only[AB];refine .bind (XR y2 (n:=4) fO) λz ⟨_,z1⟩=>?_;refine .ite (λ_=>?_) λ_=>?_;·refine .letL (.bind (oneG z1 fO) λw ⟨w1,w2⟩=>?_);refine .grd (IP fN fM) (.ret ⟨?_,w2⟩);exact d8.2 ⟨y.1,y1,aY _ (bv.2 ⟨w.1,w1,rfl⟩)⟩
 ·exact .ret ⟨d8.2 ⟨y.1,y1,dQ⟩,z1⟩
def An6: ∀fs,fs∈Vf->fs.length<=2/\EQ fs<=100:=by decide+kernel
def A2Z (N:Nat) (P:B8->Prop) (raw:B8):Prop:= ∃ty body fs c,ty∈KR/\P body/\fs∈Vf/\Gg N 200 ty body fs c=some raw
def WR (N:Nat) (P:B8->Prop) (raw:B8):Prop:=raw.length<=9000/\(A2Z N P raw\/AkR N raw)
def StO (N:Nat) (st:Int):Prop:= ∃y h0,Bp N st=some y/\y.length<=100/\ACw (Sd y)/\PZ (Sd y)=some h0/\h0.l≠200
def A2m:B8:=[72,84,84,80,47,49,46,49,32,50,48,48,32,79,75,13,10,99,111,110,116,101,110,116,45,108,101,110,103,116,104,58,32,57,13,10,13,10,97,98,99]
def A2b:B8:=[110,111,110,115,101,110,115,101]
structure DM (N:Nat):Prop where
  st: ∀st:Nat,st∈[301,302,307,404,410,500,403,204]->StO N (st:Int)
  abc:AkR N A2m
  non:AkR N A2b
def A2M (hC:DM N){P:B8->Prop}{d:AI} (hd:Gd d){u:As} (hu:K9 u) (hN:1000011<=N):Ok (Pf N d u) λr=>WR N P r.1.raw/\Gd r.2:=by
 unfold Pf;simp only[AB];refine .letL (.bind (XR hd (n:=5) fM) λy ⟨⟨y0,y1⟩,d1⟩=>?_);have hi: ∃st:Nat,idx ([404,410,500,403,204]:List Int) y.1=some (st:Int)/\st∈[301,302,307,404,410,500,403,204]:=by
  obtain⟨n,hn⟩: ∃n:Nat,y.1=(n:Int):=⟨y.1.toNat,fM⟩;rw[hn]at y1⊢;rcases (by omega:n=0\/n=1\/n=2\/n=3\/n=4)with rfl|rfl|rfl|rfl|rfl;·exact⟨404,rfl,fO⟩
  ·exact⟨410,rfl,fO⟩
  ·exact⟨500,rfl,fO⟩
  ·exact⟨403,rfl,fO⟩
  ·exact⟨204,rfl,fO⟩
 obtain⟨st,i1,i2⟩:=hi;have i3:st<=1000:=(show∀x,x∈[301,302,307,404,410,500,403,204]->x<=1000 by decide) st i2;obtain⟨r,h1,h2⟩:=AJ2 (N:=N) (st:=st) fM (ty:=[]) (body:=[]) (fs:=[]) false fO fO fO fO fM;simp only[aq,show EQ []=0 from rfl]at h2;obtain⟨yy,h0,s1,s2,s3,s4,s5⟩:=hC.st st i2;have hO:=Abx s1 s2 s3 s4 s5 (ty:=[]) (body:=[]) (fs:=[]) (c:=false) fO fO fO fO hN h1 fM;rw[i1,aa,h1,aa];refine .bind (Wv (N:=N) hu r) λa ha=>?_;refine .bind (XR d1 (n:=8) fM) λz ⟨_,e1⟩=>?_;have hal:WR N P a.raw:=by rw[ha];exact⟨fM,.inr hO⟩
 refine .ite (λ_=>?_) λ_=>.ite (λ_=>?_) λ_=>.ite (λ_=>?_) λ_=>?_;·exact .ret ⟨⟨(by decide:A2m.length<=9000),.inr hC.abc⟩,e1⟩
 ·exact .bind (XR e1 (n:=4) fM) λw ⟨_,g1⟩=>.ret ⟨hal,g1⟩
 ·exact .ret ⟨⟨(by decide:A2b.length<=9000),.inr hC.non⟩,e1⟩
 ·exact .ret ⟨hal,e1⟩
def Ay7 (hC:DM N) (hN:1000011<=N){id:AD} (hk:id.kind=4){names:List B8}{P:B8->Prop} (H: ∀ab,ab∈[id.text,AAw]->∀sv,sv∈X3 ab->Ok (ADV N ab names sv) P) (h1:P AyD) (h2:P A0F) (hP: ∀b,P b->b.length<=2000) (hlen:id.text.length<=1000){x:AF×Int}{u:As×Int} (hx:Cc N id.text=some x) (hu:Ic N x.1=some u) (hg:K9 u.1) {d:AI} (hd:Gd d):Ok (R5 N d id names) λr=>(r.1.length<=200/\∀a,a∈r.1->WR N P a.raw)/\Gd r.2:=by unfold R5;refine .bind (AdQ hk H h1 h2 hlen hd) λy ⟨y1,y2,y3⟩=>?_;refine .bind (A1q y3) λc ⟨c1,c3⟩=>?_;refine .bind (XR c3 (n:=3) fO) λz ⟨_,z1⟩=>?_;have hty:y.2.1.length<=30:=(show∀s,s∈KR->s.length<=30 by decide) _ y2;obtain⟨c4,c5⟩:=An6 _ c1;have hyl:=hP _ y1;obtain⟨r,hr0,hr⟩:=AJ2 (N:=N) (st:=200) fM (ty:=y.2.1) (body:=y.1) (fs:=c.1) (z.1==0) fM fM fM fM fM;rw[show(200:Int)=((200:Nat):Int)from rfl,hr0,aa];have hW:WR N P r:=⟨fM,.inl ⟨_,_,_,_,y2,y1,c1,hr0⟩⟩;refine .ite (λ_=>?_) λhne=>absurd hk (by simpa using hne);rw[hx,aa,hu,aa];refine .bind (XR z1 (n:=12) fO) λw ⟨_,w1⟩=>?_;refine .ite (λ_=>.bind (A2M hC (P:=P) w1 hg hN) λf ⟨f1,f2⟩=>.ret ⟨⟨fN,λa ha=>by rw[aV.1 ha];exact f1⟩,f2⟩) λ_=>?_;refine .bind (Avw fM (R:=WR N P) (λst fs r hst hfl hfs hr' hl=>?_) hg hW w1.1 w1.2) λt ⟨⟨t1,t2⟩,t3,t4⟩=>.ret ⟨⟨t1,t2⟩,t3,t4⟩;obtain⟨yy,h0,s1,s2,s3,s4,s5⟩:=hC.st st (by rcases hst with rfl|rfl|rfl<;>decide);exact⟨fM,.inr (Abx s1 s2 s3 s4 s5 fO fO fM fM hN hr' fM)⟩
end
end Go.VM
