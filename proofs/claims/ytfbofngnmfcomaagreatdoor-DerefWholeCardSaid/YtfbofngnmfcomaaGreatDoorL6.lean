import Derived.Test.YtfbofngnmfcomaaGreatDoorL5
set_option linter.defProp false
set_option linter.unusedVariables false
set_option linter.unusedSimpArgs false
namespace Go.VM
section
variable{N:Nat}
def ADu (tr:List ApiExchange):ApiResponse:=⟨Oy,Rw,[],tr⟩
def AoJ (N:Nat) (l:List ApiAnswer) (h:ApiHead) (b:B8):Prop:=∃(a:ApiAnswer) (n:Nat),a∈l/\Di N a.raw=some (h,(n:Int),0)/\Fu N h.status=some false/\Gh N h (a.raw.drop n) 1048576=some (b,0)
def trU (u0:ApiURL) (tr:List ApiExchange):Prop:= ∀e,tr.head?=some e->e.uRL=u0
def YO (N B:Nat) (l:List ApiAnswer) (u0:ApiURL) (f:ApiFetch):Prop:=((f.done=true->f.err=0->AoJ N l f.final.head f.final.body)/\(f.final.trace=[]->f.next=u0/\f.done=false)/\trU u0 f.final.trace)/\LP f.next/\0<=f.hops/\f.hops<=5/\(f.seen.length:Int)<=10+f.hops/\f.final.trace.length<=6/\(f.done=false->f.final=ADu f.final.trace/\f.err=0/\(f.final.trace.length:Int)<=f.hops)/\Fok 16384 f.final.head.fields/\f.final.body.length<=B
def ApP:Fok 16384 Rw.fields:=⟨aJ _,aJ _⟩
def AeN{B:Nat}{l:List ApiAnswer}{u0:ApiURL}{f:ApiFetch} (h:YO N B l u0 f):NP N f=some f:=by obtain⟨h0,h1,h2,h3,h4,h5,h6,h7,h8⟩:=h;unfold NP DC Bh CZ;have e1:Ac (([]:List ApiURL).length+f.seen.length) 80:=F9 fB fx;have e2:Ac (([]:List ApiExchange).length+f.final.trace.length) 96:=F9 fB fx;have e3:Ac (([]:List ApiField).length+f.final.head.fields.length) 32:=F9 (by simp;have:=h7.1;omega) fx;rw[AU e1,AU e2,AU e3];rfl
def exF (f:ApiFetch) (s e:Int):List ApiExchange:=f.final.trace++[⟨f.next,s,e⟩]
def YB{u0:ApiURL}{f:ApiFetch} (h:(f.final.trace=[]->f.next=u0/\f.done=false)/\trU u0 f.final.trace) (s e:Int):exF f s e≠ []/\trU u0 (exF f s e):=by refine⟨by simp[exF],λx hx=>?_⟩;unfold exF at hx;cases ht:f.final.trace with|nil=>rw[ht]at hx;cases hx;exact(h.1 ht).1|cons y r=>rw[ht]at hx;cases hx;exact h.2 _ (by rw[ht];rfl)
def XK{B:Nat}{l:List ApiAnswer}{u0:ApiURL}{f:ApiFetch} (h:YO N B l u0 f) (s e d:Int):JR N f s e d=some (if(d !=0)=true then⟨f.next,f.hops,true,d,ADu (exF f s e),f.seen⟩else⟨f.next,f.hops,f.done,f.err,ADu (exF f s e),f.seen⟩):=by obtain⟨h0,h1,h2,h3,h4,h5,h6,h7,h8⟩:=h;unfold JR;have e1:Ac (f.final.trace.length+1) 96:=F9 fx fx;rw[AYy,aa,AU e1];simp only[AC];cases (d !=0)<;>rfl
def AUk{B:Nat} (hB:B<=900000){l:List ApiAnswer} (hl:l.length<=1000000) (t:Int) (hr: ∀a,a∈l->a.raw.length<=B) (hN:1000020<=N){u0:ApiURL}{f:ApiFetch} (hf:YO N B l u0 f) (hd:f.done=false): ∃r,QM N l t f=some r/\Pz N l t f=some r/\YO N B l u0 r/\(r.done=true\/r.hops=f.hops+1):=by
 have hf0:=hf;obtain⟨⟨ga,gb,gc⟩,g1,g2,g3,g4,g5,g6,g7,g8⟩:=hf;obtain⟨g6a,g6b,g6c⟩:=g6 hd;have e1:Ac (f.final.trace.length+1) 96:=F9 fx fx;have g4n:f.seen.length<=15:=fx;have e2:Ac (f.seen.length+1) 80:=F9 fx fx;have htr:(f.final.trace.length:Int)<=5:=fx;have bad: ∀s e d:Int,(d !=0)=true->YO N B l u0 ⟨f.next,f.hops,true,d,ADu (exF f s e),f.seen⟩:=λs e d hd0=>⟨⟨λ_ h=>absurd h (by simpa using hd0),λh=>absurd h (YB ⟨gb,gc⟩ s e).1,(YB ⟨gb,gc⟩ s e).2⟩,g1,g2,g3,g4,by simp only[ADu,exF,ah,be];omega,nofun,ApP,aJ _⟩;unfold QM Pz Wo;rw[AeN hf0,aa,hd];simp only[aj,aA,AC];obtain⟨ha,A,ha1,ha2,ha3⟩:=AbD (N:=N) g1 hl t hr fx;rw[ha,ha1,aa,aa];cases hA:A.2 !=0
 ·simp only[aj,aA,aD];obtain⟨hh,H,hh1,hh2⟩:=ABJ (N:=N) (l:=A.1) fx fx;rw[hh,hh1,aa,aa];obtain⟨k1,k2,k3,k4,k5,k6,k7,k8⟩:=hh2;cases hH:H.2.2 !=0
  ·have hH0:H.2.2=0:=by simpa using hH
   simp only[aj,aA,aD];obtain⟨hi,b,hi1⟩:=AjI (N:=N) H.1.status;rw[hi,hi1,aa,aa];cases b
   ·obtain⟨n,hn⟩: ∃n:Nat,H.2.1=(n:Int):=⟨H.2.1.toNat,fx⟩;have hsub:sub A.1 H.2.1 (A.1.length:Int)=some (A.1.drop n):=by rw[hn];exact Bw fx
    obtain⟨hb,R,hb1,hb2,hb3⟩:=AXC (N:=N) k1 (a:=A.1.drop n) (by rw[aN];omega) fx (lim:=1048576) fx;rw[aN]at hb2;simp only[aj,aA,hsub,aa,hb,hb1,XK hf0];rw[AU e1];cases hR:R.2 !=0
    ·have hR0:(R.2==0)=true:=by simpa using hR
     simp only[hR0,hR,hi,hi1,aa,aj,aA,aD];have hA0:A.2=0:=by simpa using hA
     obtain⟨a,hal,hae⟩:=ha3 hA0;have hsrc:AoJ N l H.1 R.1:=by
      refine⟨a,n,hal,?_,hi1,?_⟩;·rw[<-hae,hh1,<-hn,<-hH0]
      ·rw[<-hae,hb1,<-(show R.2=0 from by simpa using hR0)]
     refine⟨_,rfl,rfl,⟨⟨λ_ _=>hsrc,λh=>absurd h (YB ⟨gb,gc⟩ _ _).1,(YB ⟨gb,gc⟩ _ _).2⟩,g1,g2,g3,g4,?_,nofun,k1,?_⟩,.inl rfl⟩;·simp only[ah,be];omega
     ·simp only;omega
    ·have hR0:(R.2==0)=false:=by simpa using hR
     simp only[hR0,hR,aa,aj,aA,aD];exact⟨_,rfl,rfl,bad H.1.status R.2 R.2 hR,.inl rfl⟩
   ·obtain⟨hx,X,hx1,hx2⟩:=AWz (N:=N) g1 k1 (l:=f.seen) fx f.hops fx;have hH1:(H.2.2==0)=true:=by rw[hH0];rfl
    simp only[aD,aa,hx,hx1,XK hf0,hH1,hi,hi1];rw[AU e1];cases hX:X.2 !=0
    ·have hX0:(X.2==0)=true:=by simpa using hX
     have w:wr .i64 (f.hops+1)=f.hops+1:=Aq fx;simp only[hX0,aD,aj,aA,AYy,aa,w,hH0];rw[AU e2,AU e2];have h5:f.hops<5:=by refine Int.not_le.1 λh=>?_;unfold Mt at hx1;rw[aq (aG h)]at hx1;cases hx1;cases hX
     refine⟨_,rfl,?_,⟨⟨nofun,λh=>absurd h (YB ⟨gb,gc⟩ H.1.status 0).1,(YB ⟨gb,gc⟩ H.1.status 0).2⟩,hx2,by simp only;omega,by simp only;omega,by simp only[ah,be];omega,by simp only[ah,be];omega,λ_=>⟨rfl,g6b,by simp only[ah,be];omega⟩,ApP,aJ _⟩,.inr rfl⟩;rw[hd];rfl
    ·have hX0:(X.2==0)=false:=by simpa using hX
     simp only[hX0,hX,aD,aj,aA,aa,hH0];exact⟨_,rfl,rfl,bad H.1.status 0 X.2 hX,.inl rfl⟩
  ·have hH1:(H.2.2==0)=false:=by simpa using hH
   simp only[aD,XK hf0,aa,hH1,hH,aj,aA];rw[AU e1];exact⟨_,rfl,rfl,bad 0 H.2.2 H.2.2 hH,.inl rfl⟩
 ·have hA1:(A.2==0)=false:=by simpa using hA
  simp only[aD,XK hf0,aa,hA1,hA,aj,aA];rw[AU e1];exact⟨_,rfl,rfl,bad 0 A.2 A.2 hA,.inl rfl⟩
def ADV{B:Nat} (hB:B<=900000){l:List ApiAnswer} (hl:l.length<=1000000) (t:Int) (hr: ∀a,a∈l->a.raw.length<=B) (hN:1000020<=N){u0:ApiURL} (k:ApiFetch->Option (ApiResponse×Int)): ∀(n:Nat) (f:ApiFetch),YO N B l u0 f->(if f.done=true then 0 else(7-f.hops).toNat)<n->∃r,YO N B l u0 r/\r.done=true/\IP N l t k n f=k r/\Iq N l t k n f=k r
 |0,f,_,h=>absurd h (cm _)
 | n+1,f,hf,h=>by
  rw[IP,Iq];cases hd:f.done
  ·obtain⟨r,s1,s2,s3,s4⟩:=AUk hB hl t hr hN hf hd;rw[an fA,an fA,s1,s2,aa,aa];refine ADV hB hl t hr hN k n r s3 ?_;rw[an (by rw[hd];decide)]at h;obtain⟨g0,g1,g2,g3,_⟩:=s3;obtain⟨q0,q1,q2,q3,_⟩:=hf;rcases s4 with s4|s4;·rw[aq s4];omega
   ·split<;>omega
  ·exact⟨f,hf,hd,rfl,rfl⟩
def AwB (B:Nat) (r:ApiResponse):Prop:=Fok 16384 r.head.fields/\r.body.length<=B/\r.trace.length<=10
def ArY (N:Nat) (l:List ApiAnswer) (u:ApiURL) (r:ApiResponse×Int):Prop:=PH N u=true->(r.2=0->AoJ N l r.1.head r.1.body)/\r.1.trace≠ []/\r.1.trace.length<=6/\trU (Qu u) r.1.trace
def AVt{B:Nat} (hB:B<=900000){l:List ApiAnswer} (hl:l.length<=1000000) (t:Int) (hr: ∀a,a∈l->a.raw.length<=B) (hN:1000020<=N){u:ApiURL} (hu:LP u): ∃r,Ry N l t u=some r/\Re N l t u=some r/\AwB B r.1/\ArY N l u r:=by
 unfold Ry Re Qt Qs OM ArY;rw[RI u hu.1 (by have:=hu.2;omega) fx,RN u hu.1 (by have:=hu.2;omega) fx,aa,aa];simp only[AC];cases PH N u;·obtain⟨m,rfl⟩: ∃m,N=m+1:=⟨N-1,fx⟩;simp only[aj,aA,aa,IP,Iq,aD];exact⟨_,rfl,rfl,⟨ApP,aJ _,aJ _⟩,λh=>absurd h fA⟩
 ·have hg:YO N B l (Qu u) ⟨Qu u,0,false,0,ADu [],[Qu u]⟩:=⟨⟨nofun,λ_=>⟨rfl,rfl⟩,λe he=>by cases he⟩,ADT hu,br 0,(by show(0:Int)<=5;decide),(by show((1:Nat):Int)<=10+0;decide),aJ _,λ_=>⟨rfl,rfl,br 0⟩,ApP,aJ _⟩;obtain⟨r,h1,h2,h3,h4⟩:=ADV hB hl t hr hN (λj3=>some (j3.final,j3.err)) N _ hg (by show(if false=true then 0 else(7-0:Int).toNat)<N;rw[an fA];omega);simp only[aD,aa];obtain⟨⟨z1,z2,z3⟩,y1,y2,y3,y4,y5,y6,y7,y8⟩:=h1;have hne:r.final.trace≠ []:=λh=>by have:=(z2 h).2;rw[h2]at this;exact absurd this fA
  exact⟨_,h3,h4,⟨y7,y8,by show r.final.trace.length<=10;omega⟩,λ_=>⟨λhe=>z1 h2 he,hne,y5,z3⟩⟩
end
end Go.VM
namespace Go.VM
section
variable{N:Nat}{l:B8}
end
end Go.VM
namespace Go.VM
section
variable{N:Nat}
end
end Go.VM
namespace Go.VM
section
variable{N:Nat}
def Yo: ∀(d k n:Nat) (acc:B8),n<10^(d+1)->d<k->n<18446744073709551616->acc.length+d<=1000->Ok (Dk N k (n:Int) acc) (λr=>r.length<=acc.length+d+1)
 |d,0,n,acc,h,hk,hn,ha=>by omega
 | d,k+1,n,acc,h,hk,hn,ha=>by
  have hd:wr .u64 ((n:Int).tdiv 10)=((n / 10:Nat):Int):=by grind[wr,IntKind.wrap,IntKind.bits,IntKind.signed]
  rw[Dk,hd];refine Ok.grd (by grind[AL]) (Ok.ite (λ_=>Ok.ret (by simp<;>omega)) (λhc=>?_));have hc':n / 10≠0:=by grind
  cases d with
  |zero=>omega
  |succ d=>
   refine(Yo d k (n / 10) _ ?_ fx fx (by grind)).mono λr hr=>by grind
   omega
def Aay (n:Nat) (h1:n<1000000000000) (hN:20<=N):Ok (F5 N n) (λr=>r.length<=13):=by unfold F5;exact(Yo 11 N n [] fx fx fx fy).mono λr hr=>by grind
end
end Go.VM
namespace Go.VM
section
variable{N:Nat}
end
end Go.VM
namespace Go.VM
section
variable{N B:Nat}
end
end Go.VM
namespace Go.VM
section
variable{N:Nat}{l:B8}
end
end Go.VM
namespace Go.VM
section
variable{N:Nat}
end
end Go.VM
namespace Go.VM
section
variable{N:Nat}
end
end Go.VM
namespace Go.VM
section
variable{N:Nat}
end
end Go.VM
namespace Go.VM
section
variable{N:Nat}
end
end Go.VM
namespace Go.VM
end Go.VM
namespace Go.VM
section
variable{N:Nat}{l:B8}
end
end Go.VM
namespace Go.VM
section
variable{N:Nat}{l:B8}
end
end Go.VM
namespace Go.VM
section
variable{N:Nat}{l:B8}
end
end Go.VM
namespace Go.VM
end Go.VM
namespace Go.VM
section
variable{N:Nat}
end
end Go.VM
namespace Go.VM
section
variable{N:Nat}
end
end Go.VM
namespace Go.VM
section
variable{N:Nat}
def ADk (k2:Unit->Option Bool): ∀suf pre:List ApiExchange,EP N (pre++suf) k2 suf (pre.length:Int)=k2 ()|[],pre=>rfl|x::t,pre=>by have ih:=ADk k2 t (pre++[x]);rw[ah,be,aM,ff]at ih;rw[EP,Uh,aa,aq fy,show(pre.length:Int)+1=((pre.length+1:Nat):Int) by omega,ih]
end
end Go.VM
namespace Go.VM
section
variable{N:Nat}
end
end Go.VM
namespace Go.VM
section
variable{N:Nat}
def Nt (d:MadeDice):Prop:= ∀a,a∈d.l->0<=a/\a<=255
def F6{d:MadeDice} (hd:Nt d) (hl:d.l.length<=1000){n:Nat} (h1:1<=n) (h2:n<=1000):Ok (Aj N d (n:Int)) λr=>(0<=r.1/\r.1<n)/\Nt r.2/\r.2.l.length<=1000:=by
 unfold Aj;have hz:Ok (some ((0:Int),d)) λr=>(0<=r.1/\r.1<n)/\Nt r.2/\r.2.l.length<=1000:=.ret ⟨⟨br _,by dsimp only;omega⟩,hd,hl⟩;dsimp only[AC];cases hq:d.l with
 |nil=>exact hz
 |cons a t=>
  rw[hq]at hl;simp only[ag]at hl;obtain⟨a1,a2⟩:=hd a (by rw[hq];simp);rw[an fB];refine Ok.ite (λ_=>hz) λ_=>?_;have e1:sub (a::t) 1 ((a::t).length:Int)=some t:=by rw[show(1:Int)=((1:Nat):Int)from rfl,Av _ 1 _ fy (au _)];simp
  rw[show idx (a::t) 0=some a from rfl,aa,e1,aa,Aq fx];refine .grd fx (.ret ⟨⟨?_,?_⟩,λb hb=>hd b (by rw[hq];simp[hb]),by dsimp only;omega⟩);·exact Int.tmod_nonneg _ a1
  ·exact Int.tmod_lt_of_pos _ fx
def Akg{d:MadeDice} (hd:Nt d) (hl:d.l.length<=1000){l:List B8} (h1:1<=l.length) (h2:l.length<=1000) (h3: ∀s,s∈l->s.length<=30):Ok (DJ N d l) λr=>r.1.length<=30/\Nt r.2/\r.2.l.length<=1000:=by unfold DJ;refine .bind (F6 hd hl h1 h2) λy ⟨⟨y1,y2⟩,y3,y4⟩=>?_;refine .bind (Ok.idx y1 y2) λx Bp=>.ret ⟨h3 x (List.mem_of_getElem? Bp),y3,y4⟩
end
end Go.VM
namespace Go.VM
section
variable{N:Nat}
theorem AD1: ∀(j k n:Nat) (s:B8),n<10^(j+1)->j<k->j<=18->s.length+(j+1)<=1000->∃r,FE N k (n:Int) s=some r/\r.length<=s.length+(j+1)
 |j,0,n,s,_,hk,_,_=>absurd hk (cm _)
 | j,k+1,n,s,hn,hk,hj,hs=>by
  have hp:10^(j+1)<=10^19:=Nat.pow_le_pow_right fA fx;have hq:((n:Int).tdiv 10)=((n / 10:Nat):Int):=by rw[bv fx];omega
  have hlt:n<10^19:=fx;have hw:wr .i64 ((n / 10:Nat):Int)=((n / 10:Nat):Int):=Aq (by have:n / 10<10^18:=fx;omega);rw[FE,hq,hw];have hl:(List.map FX [wr .u8 (wr .i64 (48+(n:Int).tmod 10))]).length=1:=rfl;rw[BU (by rw[hl];omega)];by_cases h0:((n / 10:Nat):Int)=0;·rw[aq (bc.2 h0)];exact⟨_,rfl,by rw[ah,hl];omega⟩
  ·rw[an (by rw[bc];exact h0)];match j,hn,hk,hj with
   |0,hn,_,_=>exfalso;omega
   |j+1,hn,hk,hj=>
    have h10:n / 10<10^(j+1):=by rw[Nat.pow_succ]at hn;omega
    obtain⟨r,h1,h2⟩:=AD1 j k (n / 10) (List.map FX [wr .u8 (wr .i64 (48+(n:Int).tmod 10))]++s) h10 fx fx (by rw[ah,hl];omega);refine⟨r,h1,?_⟩;rw[ah,hl]at h2;omega
def Ug{n:Nat} (hn:n<=1000000000) (hN:100<=N):Ok (D5 N (n:Int)) λr=>r.length<=10:=by obtain⟨r,h1,h2⟩:=AD1 (N:=N) 9 N n [] fx fx fx fy;exact⟨r,h1,by simpa using h2⟩
def ATI (k8:B8->Option B8){M:Nat} (hM:M<=1000000): ∀(fs:List ApiField) (s:B8),s.length+Dr fs+4 * fs.length<=M->∃t,DF N k8 fs s=k8 t/\t.length=s.length+Dr fs+4 * fs.length
 |[],s,_=>⟨s,rfl,by simp[Dr]⟩
 |f::fs,s,h=>by
  have e:Dr (f::fs)=f.name.length+f.value.length+Dr fs:=by simp[Dr]
  rw[e,ag]at h;obtain⟨t,h1,h2⟩:=ATI k8 hM fs (s++(((f.name++[58,32])++f.value)++[13,10])) (by simp only[ah,ag,ap];omega);refine⟨t,?_,?_⟩;·rw[DF,BU (by simp only[ag,ap];omega),BU (by simp only[ah,ag,ap];omega),BU (by simp only[ah,ag,ap];omega),BU (by simp only[ah,ag,ap];omega),h1]
  ·rw[h2,e];simp only[ah,ag,ap];omega
def Agl{h:ApiHead}{d:Nat} (hd:Ok (CK N h.status) λr=>r.length<=d) (hs:Dr h.fields+4 * h.fields.length+d<=900000):Ok (EM N h) λr=>r.length<=Dr h.fields+4 * h.fields.length+d+20:=by
 obtain⟨y,h1,h2⟩:=hd;unfold EM;have key: ∀j:B8,j.length=1->Ok (grd (AL (([72,84,84,80,47,49,46]:B8).length+j.length)) (grd (AL ((([72,84,84,80,47,49,46]:B8)++j).length+([32]:B8).length)) ((CK N h.status).bind λy5=>grd (AL (((([72,84,84,80,47,49,46]:B8)++j)++([32]:B8)).length+y5.length)) (grd (AL ((((([72,84,84,80,47,49,46]:B8)++j)++([32]:B8))++y5).length+([32,45,13,10]:B8).length)) (grd (AL h.fields.length) (DF N (λj7=>grd (AL (j7.length+([13,10]:B8).length)) (some (j7++[13,10]))) h.fields ((((([72,84,84,80,47,49,46]:B8)++j)++([32]:B8))++y5)++([32,45,13,10]:B8)))))))) λr=>r.length<=Dr h.fields+4 * h.fields.length+d+20:=by intro j hj;obtain⟨t,t1,t2⟩:=ATI (N:=N) (λj7=>grd (AL (j7.length+([13,10]:B8).length)) (some (j7++[13,10]))) (M:=1000000) (au _) h.fields ((((([72,84,84,80,47,49,46]:B8)++j)++([32]:B8))++y)++([32,45,13,10]:B8)) (by simp only[ah,ag,ap];omega);simp only[ah,ag,ap]at t2;rw[BU (by simp only[ag,ap];omega),BU (by simp only[ah,ag,ap];omega),h1,aa,BU (by simp only[ah,ag,ap];omega),BU (by simp only[ah,ag,ap];omega),BU fx,t1,BU (by simp only[ag,ap];omega)];exact⟨_,rfl,by simp only[ah,ag,ap];omega⟩
 simp only[AC];by_cases h0:(h.minor==0)=true;·rw[aq h0];exact key [48] rfl
 ·rw[an h0];exact key [49] rfl
def AYa (n:Nat):Ok (sub ([48,49,50,51,52,53,54,55,56,57,97,98,99,100,101,102]:B8) ((n:Int).tmod 16) (wr .i64 ((n:Int).tmod 16+1))) λx=>x.length=1:=by
 have e:(n:Int).tmod 16=((n % 16:Nat):Int):=by rw[ev fx];omega
 have w:wr .i64 (((n % 16:Nat):Int)+1)=((n % 16+1:Nat):Int):=by rw[Aq fx];omega
 rw[e,w,Av _ _ _ fx (by simp only[ag,ap];omega)];exact⟨_,rfl,by simp only[ba,aN,ag,ap];omega⟩
def AqO{n:Nat} (hn:n<=255) (hN:10<=N):Ok (R4 N (n:Int)) λr=>r.length<=2:=by
 obtain⟨k,rfl⟩: ∃k,N=k+2:=⟨N-2,fx⟩;unfold R4;have hq:((n:Int).tdiv 16)=((n / 16:Nat):Int):=by rw[bv fx];omega
 have hw:wr .i64 ((n / 16:Nat):Int)=((n / 16:Nat):Int):=Aq fx;have hq2:(((n / 16:Nat):Int).tdiv 16)=0:=by rw[bv fx];omega
 obtain⟨x,h1,h2⟩:=AYa n;obtain⟨y,h3,h4⟩:=AYa (n / 16);rw[Ig,h1,aa,BU (by simp only[ap];omega),hq,hw];split;·exact⟨_,rfl,fB⟩
 ·rw[Ig,h3,aa,BU (by simp only[ah,ap];omega),hq2,aq (by rfl)];exact⟨_,rfl,fB⟩
def ASI{M:Nat} (hM:M<=900000) (hN:1000000<=N) (k2:B8->Option B8): ∀(k:Nat) (a s:B8),a.length<k->s.length+a.length+6 * ((a.length+49) / 50)<=M->∃t,FO N 50 k2 k a s=k2 t/\t.length<=s.length+a.length+6 * ((a.length+49) / 50)
 |0,a,s,h,_=>absurd h (cm _)
 | k+1,a,s,h,hs=>by
  rw[FO];by_cases h0:a=[];·subst h0;exact⟨s,rfl,fy⟩
  ·have hp:0<a.length:=dy.2 h0;rw[an (by simpa using h0)];obtain⟨n,hn,hn1,hn2,hn3⟩: ∃n:Nat,(if(a.length:Int)<(if(50:Int)>1 then 50 else 1)then(a.length:Int)else(if(50:Int)>1 then 50 else 1))=(n:Int)/\1<=n/\n<=50/\n=min a.length 50:=by refine⟨min a.length 50,?_,fx,fx,rfl⟩;rw[show(if(50:Int)>1 then(50:Int)else 1)=50 from rfl];split<;>omega
   obtain⟨x,x1,x2⟩:=AqO (N:=N) (n:=n) fx fx;have s1:=Av a 0 n fx fx;rw[aL,bo,show((0:Nat):Int)=0 from rfl]at s1;have hl:(a.take n).length=n:=by rw[ba];omega
   simp only[hn];rw[x1,aa,BU fx,BU (by simp only[ah,ag,ap];omega),s1,aa,BU (by simp only[ah,ag,ap];omega),BU (by simp only[ah,ag,ap];omega),Bw fx,aa];have hd:(a.drop n).length=a.length-n:=aN;obtain⟨t,t1,t2⟩:=ASI hM hN k2 k (a.drop n) ((((s++x)++[13,10])++a.take n)++[13,10]) fx (by simp only[ah,ag,ap];omega);refine⟨t,t1,?_⟩;simp only[ah,ag,ap]at t2;omega
def AYY{a:B8} (ha:a.length<=100000) (hN:1000000<=N):Ok (GH N a 50) λr=>r.length<=a.length+6 * ((a.length+49) / 50)+5:=by unfold GH;rw[AC];obtain⟨t,h1,h2⟩:=ASI (N:=N) (M:=900000) fx hN (λj1=>grd (AL (j1.length+([48,13,10,13,10]:B8).length)) (some (j1++[48,13,10,13,10]))) N a [] fx (by simp only[ap];omega);rw[h1,BU (by simp only[ag,ap]at h2⊢;omega)];exact⟨_,rfl,by simp only[ah,ag,ap]at h2⊢;omega⟩
def AAl (a b:List ApiField):Dr (a++b)=Dr a+Dr b:=by simp[Dr]
def Ar7{n:Nat} (hn:n<=1000000) (hN:20<=N):Ok (CK N (n:Int)) λr=>r.length<=13:=by unfold CK;rw[an (by simp only[aw];omega),Fx fx];obtain⟨r,h1,h2⟩:=Aay (N:=N) n fx hN;rw[h1];exact⟨_,rfl,h2⟩
def AEs{st:Nat} (hst:st<=1000000){ty body:B8}{fs:List ApiField} (c:Bool) (hty:ty.length<=1000) (hb:body.length<=50000) (hf:fs.length<=100) (hs:Dr fs<=10000) (hN:1000000<=N):Ok (Fe N (st:Int) ty body fs c) λr=>r.length<=ty.length+Dr fs+4 * fs.length+body.length+6 * ((body.length+49) / 50)+110:=by
 have hd:=Ar7 (N:=N) hst fx;have key: ∀j:List ApiField,j.length<=1->Dr j<=12+ty.length->Ok (grd (Ac (j.length+fs.length) 32) (if c=true then grd (Ac ((j++fs).length+1) 32) ((EM N (ApiHead.mk 1 (st:Int) ((j++fs)++[(ApiField.mk ([116,114,97,110,115,102,101,114,45,101,110,99,111,100,105,110,103]:B8) ([99,104,117,110,107,101,100]:B8))]))).bind λy5=>(GH N body 50).bind λy7=>grd (AL (y5.length+y7.length)) (some (y5++y7)))else(D5 N (body.length:Int)).bind λy13=>grd (Ac ((j++fs).length+1) 32) ((EM N (ApiHead.mk 1 (st:Int) ((j++fs)++[(ApiField.mk ([99,111,110,116,101,110,116,45,108,101,110,103,116,104]:B8) y13)]))).bind λy15=>grd (AL (y15.length+body.length)) (some (y15++body))))) λr=>r.length<=ty.length+Dr fs+4 * fs.length+body.length+6 * ((body.length+49) / 50)+110:=by
  intro j hj hj2;have f1:Ac (j.length+fs.length) 32:=F9 fx fx;have f2:Ac ((j++fs).length+1) 32:=F9 (by rw[ah];omega) fx;rw[AU f1];cases c
  ·obtain⟨y,y1,y2⟩:=Ug (N:=N) (n:=body.length) fx fx;have e1:Dr ((j++fs)++[(ApiField.mk ([99,111,110,116,101,110,116,45,108,101,110,103,116,104]:B8) y)])=Dr j+Dr fs+(14+y.length):=by rw[Uf,AAl];rfl
   have e2:((j++fs)++[(ApiField.mk ([99,111,110,116,101,110,116,45,108,101,110,103,116,104]:B8) y)]).length=j.length+fs.length+1:=by simp only[ah,be]
   obtain⟨z,z1,z2⟩:=Agl (N:=N) (h:=⟨1,(st:Int),(j++fs)++[(ApiField.mk ([99,111,110,116,101,110,116,45,108,101,110,103,116,104]:B8) y)]⟩) hd (by simp only[e1,e2];omega);simp only[e1,e2]at z2;rw[an fA,y1,aa,AU f2,z1,aa,BU fx];exact⟨_,rfl,by simp only[ah];omega⟩
  ·have e1:Dr ((j++fs)++[(ApiField.mk ([116,114,97,110,115,102,101,114,45,101,110,99,111,100,105,110,103]:B8) ([99,104,117,110,107,101,100]:B8))])=Dr j+Dr fs+24:=by rw[Uf,AAl];rfl
   have e2:((j++fs)++[(ApiField.mk ([116,114,97,110,115,102,101,114,45,101,110,99,111,100,105,110,103]:B8) ([99,104,117,110,107,101,100]:B8))]).length=j.length+fs.length+1:=by simp only[ah,be]
   obtain⟨z,z1,z2⟩:=Agl (N:=N) (h:=⟨1,(st:Int),(j++fs)++[(ApiField.mk ([116,114,97,110,115,102,101,114,45,101,110,99,111,100,105,110,103]:B8) ([99,104,117,110,107,101,100]:B8))]⟩) hd (by simp only[e1,e2];omega);simp only[e1,e2]at z2;obtain⟨x,x1,x2⟩:=AYY (N:=N) (a:=body) fx hN;rw[aq rfl,AU f2,z1,aa,x1,aa,BU fx];exact⟨_,rfl,by simp only[ah];omega⟩
 unfold Fe;simp only[AC];have f3:Ac (([]:List ApiField).length+1) 32:=F9 fy fx;by_cases h0:(ty==[])=true;·rw[aq h0];exact key [] fy (by simp[Dr])
 ·rw[an h0,AU f3];exact key [⟨[99,111,110,116,101,110,116,45,116,121,112,101],ty⟩] fy (by simp[Dr])
def UU{u:ApiURL} (hu:LP u) (raw:B8):Ok (D9 N u raw) λa=>a.raw=raw:=by unfold D9;rw[Wy u ⟨hu.1.2.2.1,hu.1.2.2.2.1⟩];exact⟨_,rfl,rfl⟩
theorem ADt{h p:B8} (hh:h.length<=1000) (hp:p.length<=1000):LP ⟨h,0,p,[],[],false,false⟩:=by refine⟨⟨⟨br _,(by show(0:Int)<=65535;decide)⟩,by simp only;omega,by simp only;omega,aJ _,aJ _⟩,?_⟩;have e:KP ⟨h,0,p,[],[],false,false⟩=([104,116,116,112,115,58,47,47]++hpF h 0)++ML ⟨h,0,p,[],[],false,false⟩:=rfl;have t:ML ⟨h,0,p,[],[],false,false⟩=p:=rfl;have l:=ANa h 0;rw[e,t];simp only[ah,ag,ap];omega
end
end Go.VM
namespace Go.VM
section
variable{N:Nat}
def ADX (hN:1000000<=N){R:B8->Prop} (hR: ∀(st:Nat) (fs:List ApiField) (r:B8),(st=301\/st=302\/st=307)->fs.length<=1->Dr fs<=6000->Fe N (st:Int) [] [] fs false=some r->r.length<=7000->R r) (k2:List ApiAnswer×B8×Int×B8×B8×B8×Bool×Bool×MadeDice->Option (List ApiAnswer×MadeDice)) (P:List ApiAnswer×MadeDice->Prop) (hk: ∀(xs:List ApiAnswer) (u:ApiURL) (d:MadeDice),xs.length<=100->(∀a,a∈xs->a.raw.length<=5000/\R a.raw)->LP u->Nt d->d.l.length<=1000->Ok (k2 (xs,u.host,u.port,u.path,u.query,u.fragment,u.hasQuery,u.hasFrag,d)) P):∀(k i:Nat) (xs:List ApiAnswer) (u:ApiURL) (d:MadeDice),i+k<=50->xs.length<=i->(∀a,a∈xs->a.raw.length<=5000/\R a.raw)->LP u->Nt d->d.l.length<=1000->Ok (Cs N k2 k (i:Int) xs u.host u.port u.path u.query u.fragment u.hasQuery u.hasFrag d) P
 |0,i,xs,u,d,h1,h2,h3,h4,h5,h6=>by rw[Cs];exact hk xs u d fx h3 h4 h5 h6
 | k+1,i,xs,u,d,h1,h2,h3,h4,h5,h6=>by
  rw[Cs];simp only[AC];refine .letL (.bind (Akg h5 h6 fA fA fA) λy ⟨hy,d1,d2⟩=>?_);refine .bind (F6 d1 d2 (n:=20) fx fx) λz ⟨⟨z0,z1⟩,e1,e2⟩=>?_;obtain⟨n,hn⟩: ∃n:Nat,z.1=(n:Int):=⟨z.1.toNat,fx⟩;rw[hn];refine .bind (Ug (N:=N) (n:=n) fx fx) λa ha=>?_;refine .grd (by unfold AL;simp only[ag,ap];omega) ?_;refine .bind (Ug (N:=N) (n:=i) fx fx) λb hb=>?_;refine .grd (by unfold AL;simp only[ah,ag,ap];omega) ?_;have hf:Dv N ⟨u.host,u.port,u.path,u.query,u.fragment,u.hasQuery,u.hasFrag⟩=some (KP u):=TE u h4.1 fx;have ht:Gv N ⟨u.host,u.port,u.path,u.query,u.fragment,u.hasQuery,u.hasFrag⟩=some (ML u):=Wy u ⟨h4.1.2.2.1,h4.1.2.2.2.1⟩;rw[hf,aa];simp only[ht,aa];have hg:LP ⟨y.1,0,(([47,114]:B8)++a)++b,[],[],false,false⟩:=ADt fx (by simp only[ah,ag,ap];omega);have htl:(ML u).length<=4096:=by
   have:=h4.2;unfold KP at this;split at this;·simp only[ah]at this;omega
   ·simp only[ah]at this;omega
  have last: ∀(loc:B8) (g:MadeDice),loc.length<=4096->Nt g->g.l.length<=1000->Ok ((Aj N g 2).bind λy39=>(Fe N (wr .i64 (302+(wr .i64 (5 * y39.1)))) [] [] [(ApiField.mk ([108,111,99,97,116,105,111,110]:B8) loc)] false).bind λy41=>(D9 N (ApiURL.mk y.1 0 ((([47,114]:B8)++a)++b) [] [] false false) y41).bind λy43=>grd (Ac (xs.length+1) 80) (Cs N k2 k ((i:Int)+1) (xs++[y43]) y.1 0 ((([47,114]:B8)++a)++b) [] [] false false y39.2)) P:=by
   intro loc g hl g1 g2;refine .bind (F6 g1 g2 (n:=2) fx fx) λw ⟨⟨w0,w1⟩,q1,q2⟩=>?_;have hst: ∃st:Nat,wr .i64 (302+(wr .i64 (5 * w.1)))=(st:Int)/\(st=302\/st=307):=by rw[Aq (n:=5 * w.1) fx,Aq fx];exact⟨(302+5 * w.1).toNat,fx,fx⟩
   obtain⟨st,s1,s2⟩:=hst;rw[s1];obtain⟨r,hr0,hr⟩:=AEs (N:=N) (st:=st) fx (ty:=[]) (body:=[]) (fs:=[⟨[108,111,99,97,116,105,111,110],loc⟩]) false fA fA fy (by simp[Dr];omega) hN;rw[hr0,aa];refine .bind (UU (N:=N) hg r) λc hc=>?_;refine .grd (F9 fx fx) ?_;rw[show(i:Int)+1=((i+1:Nat):Int) by omega];refine ADX hN hR k2 P hk k (i+1) (xs++[c]) ⟨y.1,0,(([47,114]:B8)++a)++b,[],[],false,false⟩ w.2 fx fB ?_ hg q1 q2;intro v hv;rcases aX.1 hv with hv|hv;·exact h3 v hv
   ·rw[aV.1 hv,hc];have hr':=hr;simp[Dr]at hr';exact⟨fx,hR st _ r fx fy (by simp[Dr];omega) hr0 fx⟩
  refine .bind (F6 e1 e2 (n:=20) fx fx) λt ⟨_,t1,t2⟩=>?_;have c1:([104,116,116,112,58,47,47,97,46,101,120,97,109,112,108,101,47]:B8).length<=4096:=fA;have c2:([63]:B8).length<=4096:=fA;have c3:=h4.2;refine .ite (λ_=>?_) λ_=>.ite (λ_=>?_) λ_=>?_;·refine .ite (λ_=>.bind (F6 t1 t2 (n:=2) fx fx) λv ⟨hv,v1,v2⟩=>.ite (λ_=>last _ _ htl v1 v2) λ_=>last _ _ c1 v1 v2) λ_=>?_;simp only[aj,aA];exact last _ _ c1 t1 t2
  ·refine .ite (λ_=>.bind (F6 t1 t2 (n:=2) fx fx) λv ⟨hv,v1,v2⟩=>.ite (λ_=>last _ _ htl v1 v2) λ_=>last _ _ c2 v1 v2) λ_=>?_;simp only[aj,aA];exact last _ _ c2 t1 t2
  ·refine .ite (λ_=>.bind (F6 t1 t2 (n:=2) fx fx) λv ⟨hv,v1,v2⟩=>.ite (λ_=>last _ _ htl v1 v2) λ_=>last _ _ c3 v1 v2) λ_=>?_;simp only[aj,aA];exact last _ _ c3 t1 t2
def AoD (hN:1000000<=N){R:B8->Prop} (hR: ∀(st:Nat) (fs:List ApiField) (r:B8),(st=301\/st=302\/st=307)->fs.length<=1->Dr fs<=6000->Fe N (st:Int) [] [] fs false=some r->r.length<=7000->R r){n:Nat} (hn:n<=49){u:ApiURL} (hu:LP u){d:MadeDice} (hd:Nt d) (hl:d.l.length<=1000):Ok (JH N d u (n:Int)) λr=>(1<=r.1.length/\r.1.length<=101/\(∀a,a∈r.1->a.raw.length<=5000)/\∀a,a∈r.1.take (r.1.length-1)->R a.raw)/\Nt r.2/\r.2.l.length<=1000:=by
 unfold JH;rw[AC];refine .grd fx ?_;rw[show((n:Int)-0).toNat=n by omega,show(0:Int)=((0:Nat):Int)from rfl];refine ADX hN hR _ _ ?_ n 0 [] u d fx fy fy hu hd hl;intro xs v g h1 h2 h3 h4 h5;have hf:Dv N ⟨v.host,v.port,v.path,v.query,v.fragment,v.hasQuery,v.hasFrag⟩=some (KP v):=TE v h3.1 fx;simp only[hf,aa];refine .bind (UU (N:=N) ABA (KP v)) λc hc=>?_;refine .grd (F9 fx fx) (.ret ⟨⟨fy,fB,?_,?_⟩,h4,h5⟩);rotate_left;·intro a ha;have:(xs++[c]).take ((xs++[c]).length-1)=xs:=fy;rw[this]at ha;exact(h2 a ha).2
 intro a ha;rcases aX.1 ha with ha|ha;·exact(h2 a ha).1
 ·rw[aV.1 ha,hc];have:=h3.2;omega
def Anx (hN:1000000<=N){R:B8->Prop} (hR: ∀(st:Nat) (fs:List ApiField) (r:B8),(st=301\/st=302\/st=307)->fs.length<=1->Dr fs<=6000->Fe N (st:Int) [] [] fs false=some r->r.length<=7000->R r){u:ApiURL} (hu:LP u){raw:B8} (hr:R raw){d:MadeDice} (hd:Nt d) (hl:d.l.length<=1000):Ok (Ny N d u raw) λr=>(r.1.length<=200/\∀a,a∈r.1->R a.raw)/\Nt r.2/\r.2.l.length<=1000:=by
 unfold Ny;simp only[AC,AE2];have main: ∀(n:Int) (g:MadeDice),0<=n->n<7->Nt g->g.l.length<=1000->Ok (if(n==0)=true then(D9 N u raw).bind λy9=>some ([y9],g)else letL ([([97,46,101,120,97,109,112,108,101]:B8),([101,46,101,120,97,109,112,108,101]:B8)]:(List B8)) λl11=>(DJ N g l11).bind λy12=>(Aj N y12.2 9).bind λy14=>(D5 N y14.1).bind λy16=>grd (AL (([47,101,110,100]:B8).length+y16.length)) ((JH N y14.2 (ApiURL.mk y12.1 0 (([47,101,110,100]:B8)++y16) [] [] false false) (wr .i64 (n-1))).bind λy18=>(idx y18.1 (wr .i64 ((y18.1.length:Int)-1))).bind λx20=>(sub y18.1 0 (wr .i64 ((y18.1.length:Int)-1))).bind λx21=>(D9 N (ApiURL.mk y12.1 0 (([47,101,110,100]:B8)++y16) [] [] false false) raw).bind λy22=>grd (Ac (x21.length+1) 80) ((Fe N 301 [] [] [(ApiField.mk ([108,111,99,97,116,105,111,110]:B8) x20.raw)] false).bind λy24=>(D9 N u y24).bind λy26=>grd (Ac ((x21++[y22]).length+1) 80) (some (((x21++[y22])++[y26]),y18.2))))) λr=>(r.1.length<=200/\∀a,a∈r.1->R a.raw)/\Nt r.2/\r.2.l.length<=1000:=by
  intro n g n0 n7 g1 g2;refine .ite (λ_=>.bind (UU (N:=N) hu raw) λc hc=>.ret ⟨⟨fy,λa ha=>by rw[aV.1 ha,hc];exact hr⟩,g1,g2⟩) λhne=>?_;have hn0:n≠0:=by simpa using hne
  refine .letL (.bind (Akg g1 g2 fA fA fA) λy ⟨hy,d1,d2⟩=>?_);refine .bind (F6 d1 d2 (n:=9) fx fx) λz ⟨⟨z0,z1⟩,e1,e2⟩=>?_;obtain⟨m,hm⟩: ∃m:Nat,z.1=(m:Int):=⟨z.1.toNat,fx⟩;rw[hm];refine .bind (Ug (N:=N) (n:=m) fx fx) λa ha=>?_;refine .grd (by unfold AL;simp only[ag,ap];omega) ?_;have hg:LP ⟨y.1,0,([47,101,110,100]:B8)++a,[],[],false,false⟩:=ADt fx (by simp only[ah,ag,ap];omega);obtain⟨q,hq⟩: ∃q:Nat,n-1=(q:Int):=⟨(n-1).toNat,fx⟩;rw[Aq (n:=n-1) fx,hq];refine .bind (AoD hN hR (n:=q) fx hg e1 e2) λw ⟨⟨w1,w2,w3,w4⟩,f1,f2⟩=>?_;have hw:wr .i64 ((w.1.length:Int)-1)=((w.1.length-1:Nat):Int):=by rw[Aq fx];omega
  have hx:idx w.1 ((w.1.length-1:Nat):Int)=some w.1[w.1.length-1]:=by rw[Ei];exact aQ fx
  have hs:=Av w.1 0 (w.1.length-1) fx fx;rw[aL,bo,show((0:Nat):Int)=0 from rfl]at hs;rw[hw,hx,aa,hs,aa];have hraw:=w3 w.1[w.1.length-1] (List.getElem_mem _);have hlen:(w.1.take (w.1.length-1)).length<=101:=by rw[ba];omega
  refine .bind (UU (N:=N) hg raw) λc hc=>?_;refine .grd (F9 fx fx) ?_;rw[show(301:Int)=((301:Nat):Int)from rfl];obtain⟨r,hr0,hr2⟩:=AEs (N:=N) (st:=301) fx (ty:=[]) (body:=[]) (fs:=[⟨[108,111,99,97,116,105,111,110],w.1[w.1.length-1].raw⟩]) false fA fA fy (by simp[Dr];omega) hN;rw[hr0,aa];refine .bind (UU (N:=N) hu r) λv hv=>?_;refine .grd (F9 (by simp only[ah,be];omega) fx) (.ret ⟨⟨by simp only[ah,be];omega,?_⟩,f1,f2⟩);intro b hb;rcases aX.1 hb with hb|hb
  ·rcases aX.1 hb with hb|hb;·exact w4 b hb
   ·rw[aV.1 hb,hc];exact hr
  ·rw[aV.1 hb,hv];have hr':=hr2;simp[Dr]at hr';exact hR 301 _ r fx fy (by simp[Dr];omega) hr0 fx
 refine .bind (F6 hd hl (n:=3) fx fx) λy ⟨_,d1,d2⟩=>?_;refine .ite (λ_=>?_) λ_=>main 0 _ fx fx d1 d2;exact .bind (F6 d1 d2 (n:=7) fx fx) λz ⟨⟨z0,z1⟩,e1,e2⟩=>main z.1 _ z0 fx e1 e2
end
end Go.VM
namespace Go.VM
section
variable{N:Nat}
def AAe:B8:=[97,99,99,116,58,111,116,104,101,114,64,97,46,101,120,97,109,112,108,101]
def AwM:List B8:=[[104,116,116,112,115,58,47,47,97,46,101,120,97,109,112,108,101,47,102,47],[104,116,116,112,115,58,47,47,98,46,101,120,97,109,112,108,101,47,120,63,121,35,122],[104,116,116,112,58,47,47,99,46,101,120,97,109,112,108,101,47],[110,111,116,104,105,110,103]]
def Aw5 (ab e:B8):List ApiService:=[(ApiService.mk (ab++([35,102,105,108,101,115]:B8)) [([70]:B8)] [e]),(ApiService.mk (ab++([35,107]:B8)) [([75]:B8)] [([104,116,116,112,115,58,47,47,100,46,101,120,97,109,112,108,101]:B8)])]
def Zw (ab:B8):List (List ApiService):=[]::AwM.map (Aw5 ab)
def ASZ{d:MadeDice} (hd:Gb d){ab:B8} (hl:ab.length<=1000):Ok (MU N d ab) λr=>r.1∈Zw ab/\Gb r.2:=by unfold MU;refine .bind (WJ hd (n:=3) fA) λy ⟨_,y1⟩=>?_;refine .ite (λ_=>.ret ⟨dE,y1⟩) λ_=>?_;refine Avr (by simp only[ag,ap];omega) ?_;refine .letL (.bind (oneG y1 fA) λz ⟨z1,z2⟩=>?_);refine Avr (by simp only[ag,ap];omega) (.letL (.ret ⟨?_,z2⟩));exact aR _ (bD.2 ⟨z.1,z1,rfl⟩)
def APG (N:Nat) (ab:B8) (names:List B8) (sv:List ApiService):Option B8:=(NY N (ApiDoc.mk ab names [] [] sv)).bind λv=>(Qz N v).bind λy=>some y.1
def AtZ:B8:=[123,34,115,117,98,106,101,99,116,34,58]
def AuK:B8:=[123,34,105,100,34,58,49,44,34,108,105,110,107,115,34,58,91,123,125,93,125]
def AvW:B8:=[97,112,112,108,105,99,97,116,105,111,110,47,100,105,100,43,106,115,111,110]
def Yv:B8:=[97,112,112,108,105,99,97,116,105,111,110,47,106,114,100,43,106,115,111,110]
def Zl:B8:=[116,101,120,116,47,104,116,109,108]
def Ark:B8:=[97,112,112,108,105,99,97,116,105,111,110,47,106,115,111,110]
def Kq:List B8:=[AvW,Yv,Zl,Ark,[]]
def kD1:Ark∈Kq/\Yv∈Kq/\Yv∈[Yv,Zl,([]:B8)]/\Zl∈[Yv,Zl,([]:B8)]/\([]:B8)∈[Yv,Zl,[]]:=fA
def AdY{id:ApiID} (hk:id.kind=4){names:List B8}{P:B8->Prop} (H: ∀ab,ab∈[id.text,AAe]->∀sv,sv∈Zw ab->Ok (APG N ab names sv) P) (h1:P AtZ) (h2:P AuK) (hlen:id.text.length<=1000){d:MadeDice} (hd:Gb d):Ok (MM N d id names) λr=>P r.1/\r.2.1∈Kq/\Gb r.2.2:=by
 unfold MM;refine .meet (λj=>j.1∈[id.text,AAe]/\j.2.1∈[Yv,Zl,[]]/\Gb j.2.2) (λj ⟨j1,j2,j3⟩=>?_) λk hk'=>?_
 ·refine .meet (λi=>(∃sv,sv∈Zw j.1/\NY N (ApiDoc.mk j.1 names [] [] sv)=some i.2.1)/\i.1∈Kq/\Gb i.2.2) (λi ⟨⟨sv,i1,i2⟩,i3,i4⟩=>?_) λk8 hk8=>?_;·obtain⟨b,e1,e2⟩:=H j.1 j1 sv i1;unfold APG at e1;rw[i2,aa]at e1;obtain⟨y,e3,e4⟩:=bS.1 e1;cases e4;exact .bind ⟨y,e3,rfl⟩ λy' hy=>.ret (by subst hy;exact⟨e2,i3,i4⟩)
  ·refine .ite (λ_=>?_) λhne=>absurd hk (by simpa using hne);have hjl:j.1.length<=1000:=by
    rcases aP.1 j1 with h|h;·rw[h];exact hlen
    ·rw[aV.1 h];decide
   refine .bind (ASZ j3 hjl) λy ⟨y1,y2⟩=>?_;obtain⟨b,e1,e2⟩:=H j.1 j1 y.1 y1;unfold APG at e1;obtain⟨v,e3,e4⟩:=bS.1 e1;refine .bind ⟨v,e3,rfl⟩ λv' hv=>?_;subst hv;refine .letL (.bind (oneG y2 fy) λz ⟨z1,z2⟩=>?_);refine .ite (λ_=>hk8 _ ⟨⟨y.1,y1,e3⟩,kD1.1,z2⟩) λ_=>hk8 _ ⟨⟨y.1,y1,e3⟩,?_,z2⟩;rcases aP.1 z1 with h|h;·rw[h];decide
   ·rw[aV.1 h];revert j2;generalize j.2.1=t;have: ∀s,s∈[Yv,Zl,([]:B8)]->s∈Kq:=fA;exact this t
 ·refine .bind (WJ hd (n:=24) fA) λy ⟨_,y1⟩=>?_;refine .ite (λ_=>hk' _ ⟨by simp[AAe],kD1.2.2.1,y1⟩) λ_=>.ite (λ_=>.ret ⟨h1,kD1.2.1,y1⟩) λ_=>.ite (λ_=>hk' _ ⟨fy,kD1.2.2.2.1,y1⟩) λ_=>.ite (λ_=>.ret ⟨h2,kD1.2.1,y1⟩) λ_=>.ite (λ_=>hk' _ ⟨fy,kD1.2.2.2.2,y1⟩) λ_=>hk' _ ⟨fy,kD1.2.2.1,y1⟩
end
end Go.VM
