import Derived.Test.YtgfgogdgnkaedaaGreatDoorL5
set_option linter.unusedVariables false
set_option linter.unusedSimpArgs false
namespace Go.VM
section
variable{N:Nat}
def AJ8 (a:ApiAnswer) (u:ApiURL) (t:Int):Bool:=if a.host==u.host then if a.port==u.port then if a.target==LV u then if decide (a.from_≤t)then if a.until_==0 then true else decide (a.until_>t)else false else false else false else false
def AUz (a:ApiAnswer):List UInt8×Int:=if(a.fail==1)=true then([],240)else if(a.fail==2)=true then([],241)else if(a.fail==3)=true then([],242)else if(a.fail==4)=true then([],243)else(a.raw,0)
theorem Alv (a:ApiAnswer) (u:ApiURL) (t:Int):He N ⟨⟨u.host,u.port⟩,LV u,t⟩ a=some (AJ8 a u t):=by unfold He OY AJ8;simp only[aa];cases a.host==u.host<;>cases a.port==u.port<;>cases a.target==LV u<;>cases decide (a.from_≤t)<;>cases a.until_==0<;>rfl
theorem Amd (a:ApiAnswer){u:ApiURL} (hu:KT u) (t:Int):Uo N a u t=some (AJ8 a u t):=by unfold Uo AJ8;rw[V5 u ⟨hu.1.2.2.1,hu.1.2.2.2.1⟩];simp only[aa];cases a.host==u.host<;>cases a.port==u.port<;>cases a.target==LV u<;>cases decide (a.from_≤t)<;>cases a.until_==0<;>rfl
theorem ACQ (u:ApiURL) (t:Int) (k2:Unit→Option Int) (hk:k2 ()=some (-1)): ∀(l pre:List ApiAnswer),∃r,AQ N ⟨⟨u.host,u.port⟩,LV u,t⟩ k2 l (pre.length:Int)=some r∧(match l.find? fun a=>AJ8 a u t with|none=>r= -1|some a=>0≤r∧idx (pre++l) r=some a)
 |[],pre=>⟨-1,hk,rfl⟩
 | x::l,pre=>by
  rw[AQ,Alv,aa,List.find?_cons];cases h:AJ8 x u t
  ·obtain⟨r,h1,h2⟩:=ACQ u t k2 hk l (pre++[x]);rw[ah,ba]at h1;refine⟨r,?_,?_⟩;·rw[aj fh,show(pre.length:Int)+1=((pre.length+1:Nat):Int) by omega];exact h1
   ·rw[aL]at h2;exact h2
  ·exact⟨_,rfl,ff,WF pre l x⟩
theorem AC8{u:ApiURL} (hu:KT u) (t:Int) (k4:Unit→Option (List UInt8×Int)): ∀l:List ApiAnswer,Oi N u t k4 l=match l.find? fun a=>AJ8 a u t with|none=>k4 ()|some a=>some (AUz a)
 |[]=>rfl
 | x::l=>by
  rw[Oi,Amd x hu,aa,List.find?_cons,AC8 hu t k4 l];cases h:AJ8 x u t;·rfl
  ·simp only[aB];unfold AUz;cases x.fail==1<;>cases x.fail==2<;>cases x.fail==3<;>cases x.fail==4<;>rfl
theorem AYL{u:ApiURL} (hu:KT u){l:List ApiAnswer} (hl:l.length≤1000000) (t:Int){B:Nat} (hB: ∀a,a∈l→a.raw.length≤B) (hN:1000010≤N):Qd N l u t=Sz N l u t∧∃r,Sz N l u t=some r∧r.1.length≤B∧(r.2=0→∃a,a∈l∧r.1=a.raw):=by
 unfold Qd Sz;rw[P8 u hu.1 (by have:=hu.2;omega) ff,QM u hu.1 (by have:=hu.2;omega) ff,aa,aa];cases OJ N u;·exact⟨rfl,_,rfl,aH _,fun h=>by cases h⟩
 ·have ho:Jr N u=some ⟨u.host,u.port⟩:=rfl;simp only[aB,AB,ho,APp u ⟨hu.1.2.2.1,hu.1.2.2.2.1⟩,aa];unfold Av;obtain⟨r,h1,h2⟩:=ACQ (N:=N) u t (fun _=>some (-1)) rfl l [];rw[AB,Bt ff,Bt ff,AC8 hu];rw[an,show((0:Nat):Int)=0 from rfl]at h1;rw[h1,aa];cases hf:l.find? fun a=>AJ8 a u t with
  | none=>rw[hf]at h2;simp only at h2;subst h2;exact⟨rfl,_,rfl,aH _,fun h=>by cases h⟩
  | some a=>
   rw[hf]at h2;obtain⟨h3,h4⟩:=h2;have ha:=hB a (eo hf);rw[aj (by simp only[au];omega)];rw[bv]at h4;rw[h4,aa];refine⟨?_,_,rfl,?_,?_⟩;·show _=some (AUz a);unfold AUz;cases a.fail==1<;>cases a.fail==2<;>cases a.fail==3<;>cases a.fail==4<;>rfl
   ·show(AUz a).1.length≤B;unfold AUz;split;·exact aH _
    split;·exact aH _
    split;·exact aH _
    split;·exact aH _
    ·exact ha
   ·intro h;refine⟨a,eo hf,?_⟩;revert h;unfold AUz;cases a.fail==1<;>cases a.fail==2<;>cases a.fail==3<;>cases a.fail==4<;>simp
end
end Go.VM
namespace Go.VM
section
variable{N:Nat}
def ACY (tr:List ApiExchange):ApiResponse:=⟨N9,QZ,[],tr⟩
def AnL (N:Nat) (l:List ApiAnswer) (h:ApiHead) (b:List UInt8):Prop:=∃(a:ApiAnswer) (n:Nat),a∈l∧EZ N a.raw=some (h,(n:Int),0)∧JH N h.status=some false∧Ig N h (a.raw.drop n) 1048576=some (b,0)
def trU (u0:ApiURL) (tr:List ApiExchange):Prop:= ∀e,tr.head?=some e→e.uRL=u0
def Xj (N B:Nat) (l:List ApiAnswer) (u0:ApiURL) (f:ApiFetch):Prop:=((f.done=true→f.err=0→AnL N l f.final.head f.final.body)∧(f.final.trace=[]→f.next=u0∧f.done=false)∧trU u0 f.final.trace)∧KT f.next∧0≤f.hops∧f.hops≤5∧(f.seen.length:Int)≤10+f.hops∧f.final.trace.length≤6∧(f.done=false→f.final=ACY f.final.trace∧f.err=0∧(f.final.trace.length:Int)≤f.hops)∧Fok 16384 f.final.head.fields∧f.final.body.length≤B
theorem Ano:Fok 16384 QZ.fields:=⟨aH _,aH _⟩
theorem AaL{B:Nat}{l:List ApiAnswer}{u0:ApiURL}{f:ApiFetch} (h:Xj N B l u0 f):Mk N f=some f:=by obtain⟨h0,h1,h2,h3,h4,h5,h6,h7,h8⟩:=h;unfold Mk DR Bg CY;have e1:Ac (([]:List ApiURL).length+f.seen.length) 80:=Gh fi ff;have e2:Ac (([]:List ApiExchange).length+f.final.trace.length) 96:=Gh fi ff;have e3:Ac (([]:List ApiField).length+f.final.head.fields.length) 32:=Gh (by simp;have:=h7.1;omega) ff;rw[AR e1,AR e2,AR e3];rfl
def exF (f:ApiFetch) (s e:Int):List ApiExchange:=f.final.trace++[⟨f.next,s,e⟩]
theorem XM{u0:ApiURL}{f:ApiFetch} (h:(f.final.trace=[]→f.next=u0∧f.done=false)∧trU u0 f.final.trace) (s e:Int):exF f s e≠ []∧trU u0 (exF f s e):=by refine⟨by simp[exF],fun x hx=>?_⟩;unfold exF at hx;cases ht:f.final.trace with |nil=>rw[ht]at hx;cases hx;exact(h.1 ht).1|cons y r=>rw[ht]at hx;cases hx;exact h.2 _ (by rw[ht];rfl)
theorem Vn{B:Nat}{l:List ApiAnswer}{u0:ApiURL}{f:ApiFetch} (h:Xj N B l u0 f) (s e d:Int):ME N f s e d=some (if(d !=0)=true then⟨f.next,f.hops,true,d,ACY (exF f s e),f.seen⟩else⟨f.next,f.hops,f.done,f.err,ACY (exF f s e),f.seen⟩):=by obtain⟨h0,h1,h2,h3,h4,h5,h6,h7,h8⟩:=h;unfold ME;have e1:Ac (f.final.trace.length+1) 96:=Gh ff ff;rw[AVf,aa,AR e1];simp only[AB];cases (d !=0)<;>rfl
theorem AR4{B:Nat} (hB:B≤900000){l:List ApiAnswer} (hl:l.length≤1000000) (t:Int) (hr: ∀a,a∈l→a.raw.length≤B) (hN:1000020≤N){u0:ApiURL}{f:ApiFetch} (hf:Xj N B l u0 f) (hd:f.done=false): ∃r,PP N l t f=some r∧Ua N l t f=some r∧Xj N B l u0 r∧(r.done=true∨r.hops=f.hops+1):=by
 have hf0:=hf;obtain⟨⟨ga,gb,gc⟩,g1,g2,g3,g4,g5,g6,g7,g8⟩:=hf;obtain⟨g6a,g6b,g6c⟩:=g6 hd;have e1:Ac (f.final.trace.length+1) 96:=Gh ff ff;have g4n:f.seen.length≤15:=ff;have e2:Ac (f.seen.length+1) 80:=Gh ff ff;have htr:(f.final.trace.length:Int)≤5:=ff;have bad: ∀s e d:Int,(d !=0)=true→Xj N B l u0 ⟨f.next,f.hops,true,d,ACY (exF f s e),f.seen⟩:=fun s e d hd0=>⟨⟨fun _ h=>absurd h (by simpa using hd0),fun h=>absurd h (XM ⟨gb,gc⟩ s e).1,(XM ⟨gb,gc⟩ s e).2⟩,g1,g2,g3,g4,by simp only[ACY,exF,ah,ba];omega,nofun,Ano,aH _⟩;unfold PP Ua VT;rw[AaL hf0,aa,hd];simp only[al,aC,AB];obtain⟨ha,A,ha1,ha2,ha3⟩:=AYL (N:=N) g1 hl t hr ff;rw[ha,ha1,aa,aa];cases hA:A.2 !=0
 ·simp only[al,aC,aB];obtain⟨hh,H,hh1,hh2⟩:=Zm (N:=N) (l:=A.1) ff ff;rw[hh,hh1,aa,aa];obtain⟨k1,k2,k3,k4,k5,k6,k7,k8⟩:=hh2;cases hH:H.2.2 !=0
  ·have hH0:H.2.2=0:=by simpa using hH
   simp only[al,aC,aB];obtain⟨hi,b,hi1⟩:=AeT (N:=N) H.1.status;rw[hi,hi1,aa,aa];cases b
   ·obtain⟨n,hn⟩: ∃n:Nat,H.2.1=(n:Int):=⟨H.2.1.toNat,ff⟩;have hsub:sub A.1 H.2.1 (A.1.length:Int)=some (A.1.drop n):=by rw[hn];exact Bw ff
    obtain⟨hb,R,hb1,hb2,hb3⟩:=ATl (N:=N) k1 (a:=A.1.drop n) (by rw[aM];omega) ff (lim:=1048576) ff;rw[aM]at hb2;simp only[al,aC,hsub,aa,hb,hb1,Vn hf0];rw[AR e1];cases hR:R.2 !=0
    ·have hR0:(R.2==0)=true:=by simpa using hR
     simp only[hR0,hR,hi,hi1,aa,al,aC,aB];have hA0:A.2=0:=by simpa using hA
     obtain⟨a,hal,hae⟩:=ha3 hA0;have hsrc:AnL N l H.1 R.1:=by
      refine⟨a,n,hal,?_,hi1,?_⟩;·rw[←hae,hh1,←hn,←hH0]
      ·rw[←hae,hb1,←(show R.2=0 from by simpa using hR0)]
     refine⟨_,rfl,rfl,⟨⟨fun _ _=>hsrc,fun h=>absurd h (XM ⟨gb,gc⟩ _ _).1,(XM ⟨gb,gc⟩ _ _).2⟩,g1,g2,g3,g4,?_,nofun,k1,?_⟩,.inl rfl⟩;·simp only[ah,ba];omega
     ·simp only;omega
    ·have hR0:(R.2==0)=false:=by simpa using hR
     simp only[hR0,hR,aa,al,aC,aB];exact⟨_,rfl,rfl,bad H.1.status R.2 R.2 hR,.inl rfl⟩
   ·obtain⟨hx,X,hx1,hx2⟩:=AUA (N:=N) g1 k1 (l:=f.seen) ff f.hops ff;have hH1:(H.2.2==0)=true:=by rw[hH0];rfl
    simp only[aB,aa,hx,hx1,Vn hf0,hH1,hi,hi1];rw[AR e1];cases hX:X.2 !=0
    ·have hX0:(X.2==0)=true:=by simpa using hX
     have w:wr .i64 (f.hops+1)=f.hops+1:=Aq ff;simp only[hX0,aB,al,aC,AVf,aa,w,hH0];rw[AR e2,AR e2];have h5:f.hops<5:=by refine Int.not_le.1 fun h=>?_;unfold O0 at hx1;rw[ap (aF h)]at hx1;cases hx1;cases hX
     refine⟨_,rfl,?_,⟨⟨nofun,fun h=>absurd h (XM ⟨gb,gc⟩ H.1.status 0).1,(XM ⟨gb,gc⟩ H.1.status 0).2⟩,hx2,by simp only;omega,by simp only;omega,by simp only[ah,ba];omega,by simp only[ah,ba];omega,fun _=>⟨rfl,g6b,by simp only[ah,ba];omega⟩,Ano,aH _⟩,.inr rfl⟩;rw[hd];rfl
    ·have hX0:(X.2==0)=false:=by simpa using hX
     simp only[hX0,hX,aB,al,aC,aa,hH0];exact⟨_,rfl,rfl,bad H.1.status 0 X.2 hX,.inl rfl⟩
  ·have hH1:(H.2.2==0)=false:=by simpa using hH
   simp only[aB,Vn hf0,aa,hH1,hH,al,aC];rw[AR e1];exact⟨_,rfl,rfl,bad 0 H.2.2 H.2.2 hH,.inl rfl⟩
 ·have hA1:(A.2==0)=false:=by simpa using hA
  simp only[aB,Vn hf0,aa,hA1,hA,al,aC];rw[AR e1];exact⟨_,rfl,rfl,bad 0 A.2 A.2 hA,.inl rfl⟩
theorem ADA{B:Nat} (hB:B≤900000){l:List ApiAnswer} (hl:l.length≤1000000) (t:Int) (hr: ∀a,a∈l→a.raw.length≤B) (hN:1000020≤N){u0:ApiURL} (k:ApiFetch→Option (ApiResponse×Int)): ∀(n:Nat) (f:ApiFetch),Xj N B l u0 f→(if f.done=true then 0 else(7-f.hops).toNat)<n→∃r,Xj N B l u0 r∧r.done=true∧Gr N l t k n f=k r∧Mi N l t k n f=k r
 |0,f,_,h=>absurd h (b9 _)
 | n+1,f,hf,h=>by
  rw[Gr,Mi];cases hd:f.done
  ·obtain⟨r,s1,s2,s3,s4⟩:=AR4 hB hl t hr hN hf hd;rw[aj fh,aj fh,s1,s2,aa,aa];refine ADA hB hl t hr hN k n r s3 ?_;rw[aj (by rw[hd];decide)]at h;obtain⟨g0,g1,g2,g3,_⟩:=s3;obtain⟨q0,q1,q2,q3,_⟩:=hf;rcases s4 with s4|s4;·rw[ap s4];omega
   ·split<;>omega
  ·exact⟨f,hf,hd,rfl,rfl⟩
def Ase (B:Nat) (r:ApiResponse):Prop:=Fok 16384 r.head.fields∧r.body.length≤B∧r.trace.length≤10
def Aot (N:Nat) (l:List ApiAnswer) (u:ApiURL) (r:ApiResponse×Int):Prop:=OJ N u=true→(r.2=0→AnL N l r.1.head r.1.body)∧r.1.trace≠ []∧r.1.trace.length≤6∧trU (O5 u) r.1.trace
theorem AUH{B:Nat} (hB:B≤900000){l:List ApiAnswer} (hl:l.length≤1000000) (t:Int) (hr: ∀a,a∈l→a.raw.length≤B) (hN:1000020≤N){u:ApiURL} (hu:KT u): ∃r,Ql N l t u=some r∧ACn N l t u=some r∧Ase B r.1∧Aot N l u r:=by
 unfold Ql ACn Pk YG RG Aot;rw[P8 u hu.1 (by have:=hu.2;omega) ff,QM u hu.1 (by have:=hu.2;omega) ff,aa,aa];simp only[AB];cases OJ N u;·obtain⟨m,rfl⟩: ∃m,N=m+1:=⟨N-1,ff⟩;simp only[al,aC,aa,Gr,Mi,aB];exact⟨_,rfl,rfl,⟨Ano,aH _,aH _⟩,fun h=>absurd h fh⟩
 ·have hg:Xj N B l (O5 u) ⟨O5 u,0,false,0,ACY [],[O5 u]⟩:=⟨⟨nofun,fun _=>⟨rfl,rfl⟩,fun e he=>by cases he⟩,ACX hu,bg 0,(by show(0:Int)≤5;decide),(by show((1:Nat):Int)≤10+0;decide),aH _,fun _=>⟨rfl,rfl,bg 0⟩,Ano,aH _⟩;obtain⟨r,h1,h2,h3,h4⟩:=ADA hB hl t hr hN (fun j3=>some (j3.final,j3.err)) N _ hg (by show(if false=true then 0 else(7-0:Int).toNat)<N;rw[aj fh];omega);simp only[aB,aa];obtain⟨⟨z1,z2,z3⟩,y1,y2,y3,y4,y5,y6,y7,y8⟩:=h1;have hne:r.final.trace≠ []:=fun h=>by have:=(z2 h).2;rw[h2]at this;exact absurd this fh
  exact⟨_,h3,h4,⟨y7,y8,by show r.final.trace.length≤10;omega⟩,fun _=>⟨fun he=>z1 h2 he,hne,y5,z3⟩⟩
end
end Go.VM
namespace Go.VM
section
variable{N:Nat}{l:List UInt8}
end
end Go.VM
namespace Go.VM
section
variable{N:Nat}
end
end Go.VM
namespace Go.VM
section
variable{N:Nat}
theorem Xg: ∀(d k n:Nat) (acc:List UInt8),n<10^(d+1)→d<k→n<18446744073709551616→acc.length+d≤1000→Ok (Dn N k (n:Int) acc) (fun r=>r.length≤acc.length+d+1)
 |d,0,n,acc,h,hk,hn,ha=>by omega
 | d,k+1,n,acc,h,hk,hn,ha=>by
  have hd:wr .u64 ((n:Int).tdiv 10)=((n / 10:Nat):Int):=by grind[wr,IntKind.wrap,IntKind.bits,IntKind.signed]
  rw[Dn,hd];refine Ok.grd (by grind[AC]) (Ok.ite (fun _=>Ok.ret (by simp<;>omega)) (fun hc=>?_));have hc':n / 10≠0:=by grind
  cases d with
  |zero=>omega
  | succ d=>
   refine(Xg d k (n / 10) _ ?_ ff ff (by grind)).mono fun r hr=>by grind
   omega
theorem Aa4 (n:Nat) (h1:n<1000000000000) (hN:20≤N):Ok (IE N n) (fun r=>r.length≤13):=by unfold IE;exact(Xg 11 N n [] ff ff ff fg).mono fun r hr=>by grind
end
end Go.VM
namespace Go.VM
section
variable{N:Nat}
end
end Go.VM
namespace Go.VM
section
variable{N B:Nat}
end
end Go.VM
namespace Go.VM
section
variable{N:Nat}{l:List UInt8}
end
end Go.VM
namespace Go.VM
section
variable{N:Nat}
end
end Go.VM
namespace Go.VM
section
variable{N:Nat}
end
end Go.VM
namespace Go.VM
section
variable{N:Nat}
end
end Go.VM
namespace Go.VM
section
variable{N:Nat}
end
end Go.VM
namespace Go.VM
inductive TKq (n:Nat):ApiToken→Prop |fin (p:Int):TKq n (ApiToken.mk 1 [] p) |pun (c:UInt8) (p:Int) (h:As1.contains c=true):TKq n (ApiToken.mk 2 [c] p) |txt (s:List UInt8) (p:Int) (h:s.length≤n):TKq n (ApiToken.mk 3 s p) |num (s:List UInt8) (p:Int) (h0:s≠ []) (h:At5 s=s.length) (hl:s.length≤n):TKq n (ApiToken.mk 4 s p) |wrd (s:List UInt8) (p:Int) (h:isWord s=true):TKq n (ApiToken.mk 5 s p)
end Go.VM
namespace Go.VM
section
variable{N:Nat}{l:List UInt8}
end
end Go.VM
namespace Go.VM
section
variable{N:Nat}{l:List UInt8}
end
end Go.VM
namespace Go.VM
section
variable{N:Nat}{l:List UInt8}
end
end Go.VM
namespace Go.VM
end Go.VM
namespace Go.VM
section
variable{N:Nat}
end
end Go.VM
namespace Go.VM
section
variable{N:Nat}
end
end Go.VM
namespace Go.VM
section
variable{N:Nat}
end
end Go.VM
namespace Go.VM
section
variable{N:Nat}
end
end Go.VM
namespace Go.VM
section
variable{N:Nat}
def M8 (d:MadeDice):Prop:= ∀a,a∈d.l→0≤a∧a≤255
theorem Fu{d:MadeDice} (hd:M8 d) (hl:d.l.length≤1000){n:Nat} (h1:1≤n) (h2:n≤1000):Ok (Af N d (n:Int)) fun r=>(0≤r.1∧r.1<n)∧M8 r.2∧r.2.l.length≤1000:=by
 unfold Af;have hz:Ok (some ((0:Int),d)) fun r=>(0≤r.1∧r.1<n)∧M8 r.2∧r.2.l.length≤1000:=.ret ⟨⟨bg _,by dsimp only;omega⟩,hd,hl⟩;dsimp only[AB];cases hq:d.l with
 |nil=>exact hz
 | cons a t=>
  rw[hq]at hl;simp only[ag]at hl;obtain⟨a1,a2⟩:=hd a (by rw[hq];simp);rw[aj fi];refine Ok.ite (fun _=>hz) fun _=>?_;have e1:sub (a::t) 1 ((a::t).length:Int)=some t:=by rw[show(1:Int)=((1:Nat):Int)from rfl,A8 _ 1 _ fg (aq _)];simp
  rw[show idx (a::t) 0=some a from rfl,aa,e1,aa,Aq ff];refine .grd ff (.ret ⟨⟨?_,?_⟩,fun b hb=>hd b (by rw[hq];simp[hb]),by dsimp only;omega⟩);·exact Int.tmod_nonneg _ a1
  ·exact Int.tmod_lt_of_pos _ ff
theorem Adf{d:MadeDice} (hd:M8 d) (hl:d.l.length≤1000){l:List (List UInt8)} (h1:1≤l.length) (h2:l.length≤1000) (h3: ∀s,s∈l→s.length≤30):Ok (BJ N d l) fun r=>r.1.length≤30∧M8 r.2∧r.2.l.length≤1000:=by unfold BJ;refine .bind (Fu hd hl h1 h2) fun y ⟨⟨y1,y2⟩,y3,y4⟩=>?_;refine .bind (Ok.idx y1 y2) fun x Bl=>.ret ⟨h3 x (List.mem_of_getElem? Bl),y3,y4⟩
end
end Go.VM
namespace Go.VM
section
variable{N:Nat}
theorem ACo: ∀(j k n:Nat) (s:List UInt8),n<10^(j+1)→j<k→j≤18→s.length+(j+1)≤1000→∃r,FK N k (n:Int) s=some r∧r.length≤s.length+(j+1)
 |j,0,n,s,_,hk,_,_=>absurd hk (b9 _)
 | j,k+1,n,s,hn,hk,hj,hs=>by
  have hp:10^(j+1)≤10^19:=Nat.pow_le_pow_right fh ff;have hq:((n:Int).tdiv 10)=((n / 10:Nat):Int):=by rw[bk ff];omega
  have hlt:n<10^19:=ff;have hw:wr .i64 ((n / 10:Nat):Int)=((n / 10:Nat):Int):=Aq (by have:n / 10<10^18:=ff;omega);rw[FK,hq,hw];have hl:(List.map FN [wr .u8 (wr .i64 (48+(n:Int).tmod 10))]).length=1:=rfl;rw[Bt (by rw[hl];omega)];by_cases h0:((n / 10:Nat):Int)=0;·rw[ap (a8.2 h0)];exact⟨_,rfl,by rw[ah,hl];omega⟩
  ·rw[aj (by rw[a8];exact h0)];match j,hn,hk,hj with
   |0,hn,_,_=>exfalso;omega
   | j+1,hn,hk,hj=>
    have h10:n / 10<10^(j+1):=by rw[Nat.pow_succ]at hn;omega
    obtain⟨r,h1,h2⟩:=ACo j k (n / 10) (List.map FN [wr .u8 (wr .i64 (48+(n:Int).tmod 10))]++s) h10 ff ff (by rw[ah,hl];omega);refine⟨r,h1,?_⟩;rw[ah,hl]at h2;omega
theorem TP{n:Nat} (hn:n≤1000000000) (hN:100≤N):Ok (Dv N (n:Int)) fun r=>r.length≤10:=by obtain⟨r,h1,h2⟩:=ACo (N:=N) 9 N n [] ff ff ff fg;exact⟨r,h1,by simpa using h2⟩
theorem AO7 (k8:List UInt8→Option (List UInt8)){M:Nat} (hM:M≤1000000): ∀(fs:List ApiField) (s:List UInt8),s.length+Dq fs+4 * fs.length≤M→∃t,Co N k8 fs s=k8 t∧t.length=s.length+Dq fs+4 * fs.length
 |[],s,_=>⟨s,rfl,by simp[Dq]⟩
 | f::fs,s,h=>by
  have e:Dq (f::fs)=f.name.length+f.value.length+Dq fs:=by simp[Dq]
  rw[e,ag]at h;obtain⟨t,h1,h2⟩:=AO7 k8 hM fs (s++(((f.name++[58,32])++f.value)++[13,10])) (by simp only[ah,ag,an];omega);refine⟨t,?_,?_⟩;·rw[Co,Bt (by simp only[ag,an];omega),Bt (by simp only[ah,ag,an];omega),Bt (by simp only[ah,ag,an];omega),Bt (by simp only[ah,ag,an];omega),h1]
  ·rw[h2,e];simp only[ah,ag,an];omega
theorem AdI{h:ApiHead}{d:Nat} (hd:Ok (CE N h.status) fun r=>r.length≤d) (hs:Dq h.fields+4 * h.fields.length+d≤900000):Ok (EL N h) fun r=>r.length≤Dq h.fields+4 * h.fields.length+d+20:=by
 obtain⟨y,h1,h2⟩:=hd;unfold EL;have key: ∀j:List UInt8,j.length=1→Ok (grd (AC (([72,84,84,80,47,49,46]:List UInt8).length+j.length)) (grd (AC ((([72,84,84,80,47,49,46]:List UInt8)++j).length+([32]:List UInt8).length)) (Option.bind (CE N h.status) fun y5=>grd (AC (((([72,84,84,80,47,49,46]:List UInt8)++j)++([32]:List UInt8)).length+y5.length)) (grd (AC ((((([72,84,84,80,47,49,46]:List UInt8)++j)++([32]:List UInt8))++y5).length+([32,45,13,10]:List UInt8).length)) (grd (AC h.fields.length) (Co N (fun j7=>grd (AC (j7.length+([13,10]:List UInt8).length)) (some (j7++[13,10]))) h.fields ((((([72,84,84,80,47,49,46]:List UInt8)++j)++([32]:List UInt8))++y5)++([32,45,13,10]:List UInt8)))))))) fun r=>r.length≤Dq h.fields+4 * h.fields.length+d+20:=by intro j hj;obtain⟨t,t1,t2⟩:=AO7 (N:=N) (fun j7=>grd (AC (j7.length+([13,10]:List UInt8).length)) (some (j7++[13,10]))) (M:=1000000) (aq _) h.fields ((((([72,84,84,80,47,49,46]:List UInt8)++j)++([32]:List UInt8))++y)++([32,45,13,10]:List UInt8)) (by simp only[ah,ag,an];omega);simp only[ah,ag,an]at t2;rw[Bt (by simp only[ag,an];omega),Bt (by simp only[ah,ag,an];omega),h1,aa,Bt (by simp only[ah,ag,an];omega),Bt (by simp only[ah,ag,an];omega),Bt ff,t1,Bt (by simp only[ag,an];omega)];exact⟨_,rfl,by simp only[ah,ag,an];omega⟩
 simp only[AB];by_cases h0:(h.minor==0)=true;·rw[ap h0];exact key [48] rfl
 ·rw[aj h0];exact key [49] rfl
theorem AVr (n:Nat):Ok (sub ([48,49,50,51,52,53,54,55,56,57,97,98,99,100,101,102]:List UInt8) ((n:Int).tmod 16) (wr .i64 ((n:Int).tmod 16+1))) fun x=>x.length=1:=by
 have e:(n:Int).tmod 16=((n % 16:Nat):Int):=by rw[dX ff];omega
 have w:wr .i64 (((n % 16:Nat):Int)+1)=((n % 16+1:Nat):Int):=by rw[Aq ff];omega
 rw[e,w,A8 _ _ _ ff (by simp only[ag,an];omega)];exact⟨_,rfl,by simp only[aY,aM,ag,an];omega⟩
theorem AnV{n:Nat} (hn:n≤255) (hN:10≤N):Ok (QR N (n:Int)) fun r=>r.length≤2:=by
 obtain⟨k,rfl⟩: ∃k,N=k+2:=⟨N-2,ff⟩;unfold QR;have hq:((n:Int).tdiv 16)=((n / 16:Nat):Int):=by rw[bk ff];omega
 have hw:wr .i64 ((n / 16:Nat):Int)=((n / 16:Nat):Int):=Aq ff;have hq2:(((n / 16:Nat):Int).tdiv 16)=0:=by rw[bk ff];omega
 obtain⟨x,h1,h2⟩:=AVr n;obtain⟨y,h3,h4⟩:=AVr (n / 16);rw[IG,h1,aa,Bt (by simp only[an];omega),hq,hw];split;·exact⟨_,rfl,fi⟩
 ·rw[IG,h3,aa,Bt (by simp only[ah,an];omega),hq2,ap (by rfl)];exact⟨_,rfl,fi⟩
theorem ANV{M:Nat} (hM:M≤900000) (hN:1000000≤N) (k2:List UInt8→Option (List UInt8)): ∀(k:Nat) (a s:List UInt8),a.length<k→s.length+a.length+6 * ((a.length+49) / 50)≤M→∃t,FM N 50 k2 k a s=k2 t∧t.length≤s.length+a.length+6 * ((a.length+49) / 50)
 |0,a,s,h,_=>absurd h (b9 _)
 | k+1,a,s,h,hs=>by
  rw[FM];by_cases h0:a=[];·subst h0;exact⟨s,rfl,fg⟩
  ·have hp:0<a.length:=dn.2 h0;rw[aj (by simpa using h0)];obtain⟨n,hn,hn1,hn2,hn3⟩: ∃n:Nat,(if(a.length:Int)<(if(50:Int)>1 then 50 else 1)then(a.length:Int)else(if(50:Int)>1 then 50 else 1))=(n:Int)∧1≤n∧n≤50∧n=min a.length 50:=by refine⟨min a.length 50,?_,ff,ff,rfl⟩;rw[show(if(50:Int)>1 then(50:Int)else 1)=50 from rfl];split<;>omega
   obtain⟨x,x1,x2⟩:=AnV (N:=N) (n:=n) ff ff;have s1:=A8 a 0 n ff ff;rw[aJ,be,show((0:Nat):Int)=0 from rfl]at s1;have hl:(a.take n).length=n:=by rw[aY];omega
   simp only[hn];rw[x1,aa,Bt ff,Bt (by simp only[ah,ag,an];omega),s1,aa,Bt (by simp only[ah,ag,an];omega),Bt (by simp only[ah,ag,an];omega),Bw ff,aa];have hd:(a.drop n).length=a.length-n:=aM;obtain⟨t,t1,t2⟩:=ANV hM hN k2 k (a.drop n) ((((s++x)++[13,10])++a.take n)++[13,10]) ff (by simp only[ah,ag,an];omega);refine⟨t,t1,?_⟩;simp only[ah,ag,an]at t2;omega
theorem AVR{a:List UInt8} (ha:a.length≤100000) (hN:1000000≤N):Ok (F6 N a 50) fun r=>r.length≤a.length+6 * ((a.length+49) / 50)+5:=by unfold F6;rw[AB];obtain⟨t,h1,h2⟩:=ANV (N:=N) (M:=900000) ff hN (fun j1=>grd (AC (j1.length+([48,13,10,13,10]:List UInt8).length)) (some (j1++[48,13,10,13,10]))) N a [] ff (by simp only[an];omega);rw[h1,Bt (by simp only[ag,an]at h2⊢;omega)];exact⟨_,rfl,by simp only[ah,ag,an]at h2⊢;omega⟩
theorem AAB (a b:List ApiField):Dq (a++b)=Dq a+Dq b:=by simp[Dq]
theorem Ar0{n:Nat} (hn:n≤1000000) (hN:20≤N):Ok (CE N (n:Int)) fun r=>r.length≤13:=by unfold CE;rw[aj (by simp only[au];omega),Ff ff];obtain⟨r,h1,h2⟩:=Aa4 (N:=N) n ff hN;rw[h1];exact⟨_,rfl,h2⟩
theorem ADY{st:Nat} (hst:st≤1000000){ty body:List UInt8}{fs:List ApiField} (c:Bool) (hty:ty.length≤1000) (hb:body.length≤50000) (hf:fs.length≤100) (hs:Dq fs≤10000) (hN:1000000≤N):Ok (FX N (st:Int) ty body fs c) fun r=>r.length≤ty.length+Dq fs+4 * fs.length+body.length+6 * ((body.length+49) / 50)+110:=by
 have hd:=Ar0 (N:=N) hst ff;have key: ∀j:List ApiField,j.length≤1→Dq j≤12+ty.length→Ok (grd (Ac (j.length+fs.length) 32) (if c=true then grd (Ac ((j++fs).length+1) 32) (Option.bind (EL N (ApiHead.mk 1 (st:Int) ((j++fs)++[(ApiField.mk ([116,114,97,110,115,102,101,114,45,101,110,99,111,100,105,110,103]:List UInt8) ([99,104,117,110,107,101,100]:List UInt8))]))) fun y5=>Option.bind (F6 N body 50) fun y7=>grd (AC (y5.length+y7.length)) (some (y5++y7)))else Option.bind (Dv N (body.length:Int)) fun y13=>grd (Ac ((j++fs).length+1) 32) (Option.bind (EL N (ApiHead.mk 1 (st:Int) ((j++fs)++[(ApiField.mk ([99,111,110,116,101,110,116,45,108,101,110,103,116,104]:List UInt8) y13)]))) fun y15=>grd (AC (y15.length+body.length)) (some (y15++body))))) fun r=>r.length≤ty.length+Dq fs+4 * fs.length+body.length+6 * ((body.length+49) / 50)+110:=by
  intro j hj hj2;have f1:Ac (j.length+fs.length) 32:=Gh ff ff;have f2:Ac ((j++fs).length+1) 32:=Gh (by rw[ah];omega) ff;rw[AR f1];cases c
  ·obtain⟨y,y1,y2⟩:=TP (N:=N) (n:=body.length) ff ff;have e1:Dq ((j++fs)++[(ApiField.mk ([99,111,110,116,101,110,116,45,108,101,110,103,116,104]:List UInt8) y)])=Dq j+Dq fs+(14+y.length):=by rw[Su,AAB];rfl
   have e2:((j++fs)++[(ApiField.mk ([99,111,110,116,101,110,116,45,108,101,110,103,116,104]:List UInt8) y)]).length=j.length+fs.length+1:=by simp only[ah,ba]
   obtain⟨z,z1,z2⟩:=AdI (N:=N) (h:=⟨1,(st:Int),(j++fs)++[(ApiField.mk ([99,111,110,116,101,110,116,45,108,101,110,103,116,104]:List UInt8) y)]⟩) hd (by simp only[e1,e2];omega);simp only[e1,e2]at z2;rw[aj fh,y1,aa,AR f2,z1,aa,Bt ff];exact⟨_,rfl,by simp only[ah];omega⟩
  ·have e1:Dq ((j++fs)++[(ApiField.mk ([116,114,97,110,115,102,101,114,45,101,110,99,111,100,105,110,103]:List UInt8) ([99,104,117,110,107,101,100]:List UInt8))])=Dq j+Dq fs+24:=by rw[Su,AAB];rfl
   have e2:((j++fs)++[(ApiField.mk ([116,114,97,110,115,102,101,114,45,101,110,99,111,100,105,110,103]:List UInt8) ([99,104,117,110,107,101,100]:List UInt8))]).length=j.length+fs.length+1:=by simp only[ah,ba]
   obtain⟨z,z1,z2⟩:=AdI (N:=N) (h:=⟨1,(st:Int),(j++fs)++[(ApiField.mk ([116,114,97,110,115,102,101,114,45,101,110,99,111,100,105,110,103]:List UInt8) ([99,104,117,110,107,101,100]:List UInt8))]⟩) hd (by simp only[e1,e2];omega);simp only[e1,e2]at z2;obtain⟨x,x1,x2⟩:=AVR (N:=N) (a:=body) ff hN;rw[ap rfl,AR f2,z1,aa,x1,aa,Bt ff];exact⟨_,rfl,by simp only[ah];omega⟩
 unfold FX;simp only[AB];have f3:Ac (([]:List ApiField).length+1) 32:=Gh fg ff;by_cases h0:(ty==[])=true;·rw[ap h0];exact key [] fg (by simp[Dq])
 ·rw[aj h0,AR f3];exact key [⟨[99,111,110,116,101,110,116,45,116,121,112,101],ty⟩] fg (by simp[Dq])
theorem Sr{u:ApiURL} (hu:KT u) (raw:List UInt8):Ok (D8 N u raw) fun a=>a.raw=raw:=by unfold D8;rw[V5 u ⟨hu.1.2.2.1,hu.1.2.2.2.1⟩];exact⟨_,rfl,rfl⟩
theorem AC6{h p:List UInt8} (hh:h.length≤1000) (hp:p.length≤1000):KT ⟨h,0,p,[],[],false,false⟩:=by refine⟨⟨⟨bg _,(by show(0:Int)≤65535;decide)⟩,by simp only;omega,by simp only;omega,aH _,aH _⟩,?_⟩;have e:KA ⟨h,0,p,[],[],false,false⟩=([104,116,116,112,115,58,47,47]++hpF h 0)++LV ⟨h,0,p,[],[],false,false⟩:=rfl;have t:LV ⟨h,0,p,[],[],false,false⟩=p:=rfl;have l:=AJj h 0;rw[e,t];simp only[ah,ag,an];omega
end
end Go.VM
namespace Go.VM
section
variable{N:Nat}
theorem ACR (hN:1000000≤N){R:List UInt8→Prop} (hR: ∀(st:Nat) (fs:List ApiField) (r:List UInt8),(st=301∨st=302∨st=307)→fs.length≤1→Dq fs≤6000→FX N (st:Int) [] [] fs false=some r→r.length≤7000→R r) (k2:List ApiAnswer×List UInt8×Int×List UInt8×List UInt8×List UInt8×Bool×Bool×MadeDice→Option (List ApiAnswer×MadeDice)) (P:List ApiAnswer×MadeDice→Prop) (hk: ∀(xs:List ApiAnswer) (u:ApiURL) (d:MadeDice),xs.length≤100→(∀a,a∈xs→a.raw.length≤5000∧R a.raw)→KT u→M8 d→d.l.length≤1000→Ok (k2 (xs,u.host,u.port,u.path,u.query,u.fragment,u.hasQuery,u.hasFrag,d)) P):∀(k i:Nat) (xs:List ApiAnswer) (u:ApiURL) (d:MadeDice),i+k≤50→xs.length≤i→(∀a,a∈xs→a.raw.length≤5000∧R a.raw)→KT u→M8 d→d.l.length≤1000→Ok (Cv N k2 k (i:Int) xs u.host u.port u.path u.query u.fragment u.hasQuery u.hasFrag d) P
 | 0,i,xs,u,d,h1,h2,h3,h4,h5,h6=>by rw[Cv];exact hk xs u d ff h3 h4 h5 h6
 | k+1,i,xs,u,d,h1,h2,h3,h4,h5,h6=>by
  rw[Cv];simp only[AB];refine .letL (.bind (Adf h5 h6 fh fh fh) fun y ⟨hy,d1,d2⟩=>?_);refine .bind (Fu d1 d2 (n:=20) ff ff) fun z ⟨⟨z0,z1⟩,e1,e2⟩=>?_;obtain⟨n,hn⟩: ∃n:Nat,z.1=(n:Int):=⟨z.1.toNat,ff⟩;rw[hn];refine .bind (TP (N:=N) (n:=n) ff ff) fun a ha=>?_;refine .grd (by unfold AC;simp only[ag,an];omega) ?_;refine .bind (TP (N:=N) (n:=i) ff ff) fun b hb=>?_;refine .grd (by unfold AC;simp only[ah,ag,an];omega) ?_;have hf:DZ N ⟨u.host,u.port,u.path,u.query,u.fragment,u.hasQuery,u.hasFrag⟩=some (KA u):=Rn u h4.1 ff;have ht:Gj N ⟨u.host,u.port,u.path,u.query,u.fragment,u.hasQuery,u.hasFrag⟩=some (LV u):=V5 u ⟨h4.1.2.2.1,h4.1.2.2.2.1⟩;rw[hf,aa];simp only[ht,aa];have hg:KT ⟨y.1,0,(([47,114]:List UInt8)++a)++b,[],[],false,false⟩:=AC6 ff (by simp only[ah,ag,an];omega);have htl:(LV u).length≤4096:=by
   have:=h4.2;unfold KA at this;split at this;·simp only[ah]at this;omega
   ·simp only[ah]at this;omega
  have last: ∀(loc:List UInt8) (g:MadeDice),loc.length≤4096→M8 g→g.l.length≤1000→Ok (Option.bind (Af N g 2) fun y39=>Option.bind (FX N (wr .i64 (302+(wr .i64 (5 * y39.1)))) [] [] [(ApiField.mk ([108,111,99,97,116,105,111,110]:List UInt8) loc)] false) fun y41=>Option.bind (D8 N (ApiURL.mk y.1 0 ((([47,114]:List UInt8)++a)++b) [] [] false false) y41) fun y43=>grd (Ac (xs.length+1) 80) (Cv N k2 k ((i:Int)+1) (xs++[y43]) y.1 0 ((([47,114]:List UInt8)++a)++b) [] [] false false y39.2)) P:=by
   intro loc g hl g1 g2;refine .bind (Fu g1 g2 (n:=2) ff ff) fun w ⟨⟨w0,w1⟩,q1,q2⟩=>?_;have hst: ∃st:Nat,wr .i64 (302+(wr .i64 (5 * w.1)))=(st:Int)∧(st=302∨st=307):=by rw[Aq (n:=5 * w.1) ff,Aq ff];exact⟨(302+5 * w.1).toNat,ff,ff⟩
   obtain⟨st,s1,s2⟩:=hst;rw[s1];obtain⟨r,hr0,hr⟩:=ADY (N:=N) (st:=st) ff (ty:=[]) (body:=[]) (fs:=[⟨[108,111,99,97,116,105,111,110],loc⟩]) false fh fh fg (by simp[Dq];omega) hN;rw[hr0,aa];refine .bind (Sr (N:=N) hg r) fun c hc=>?_;refine .grd (Gh ff ff) ?_;rw[show(i:Int)+1=((i+1:Nat):Int) by omega];refine ACR hN hR k2 P hk k (i+1) (xs++[c]) ⟨y.1,0,(([47,114]:List UInt8)++a)++b,[],[],false,false⟩ w.2 ff fi ?_ hg q1 q2;intro v hv;rcases aV.1 hv with hv|hv;·exact h3 v hv
   ·rw[aX.1 hv,hc];have hr':=hr;simp[Dq]at hr';exact⟨ff,hR st _ r ff fg (by simp[Dq];omega) hr0 ff⟩
  refine .bind (Fu e1 e2 (n:=20) ff ff) fun t ⟨_,t1,t2⟩=>?_;have c1:([104,116,116,112,58,47,47,97,46,101,120,97,109,112,108,101,47]:List UInt8).length≤4096:=fh;have c2:([63]:List UInt8).length≤4096:=fh;have c3:=h4.2;refine .ite (fun _=>?_) fun _=>.ite (fun _=>?_) fun _=>?_;·refine .ite (fun _=>.bind (Fu t1 t2 (n:=2) ff ff) fun v ⟨hv,v1,v2⟩=>.ite (fun _=>last _ _ htl v1 v2) fun _=>last _ _ c1 v1 v2) fun _=>?_;simp only[al,aC];exact last _ _ c1 t1 t2
  ·refine .ite (fun _=>.bind (Fu t1 t2 (n:=2) ff ff) fun v ⟨hv,v1,v2⟩=>.ite (fun _=>last _ _ htl v1 v2) fun _=>last _ _ c2 v1 v2) fun _=>?_;simp only[al,aC];exact last _ _ c2 t1 t2
  ·refine .ite (fun _=>.bind (Fu t1 t2 (n:=2) ff ff) fun v ⟨hv,v1,v2⟩=>.ite (fun _=>last _ _ htl v1 v2) fun _=>last _ _ c3 v1 v2) fun _=>?_;simp only[al,aC];exact last _ _ c3 t1 t2
theorem Am8 (hN:1000000≤N){R:List UInt8→Prop} (hR: ∀(st:Nat) (fs:List ApiField) (r:List UInt8),(st=301∨st=302∨st=307)→fs.length≤1→Dq fs≤6000→FX N (st:Int) [] [] fs false=some r→r.length≤7000→R r){n:Nat} (hn:n≤49){u:ApiURL} (hu:KT u){d:MadeDice} (hd:M8 d) (hl:d.l.length≤1000):Ok (I6 N d u (n:Int)) fun r=>(1≤r.1.length∧r.1.length≤101∧(∀a,a∈r.1→a.raw.length≤5000)∧∀a,a∈r.1.take (r.1.length-1)→R a.raw)∧M8 r.2∧r.2.l.length≤1000:=by
 unfold I6;rw[AB];refine .grd ff ?_;rw[show((n:Int)-0).toNat=n by omega,show(0:Int)=((0:Nat):Int)from rfl];refine ACR hN hR _ _ ?_ n 0 [] u d ff fg fg hu hd hl;intro xs v g h1 h2 h3 h4 h5;have hf:DZ N ⟨v.host,v.port,v.path,v.query,v.fragment,v.hasQuery,v.hasFrag⟩=some (KA v):=Rn v h3.1 ff;simp only[hf,aa];refine .bind (Sr (N:=N) AAE (KA v)) fun c hc=>?_;refine .grd (Gh ff ff) (.ret ⟨⟨fg,fi,?_,?_⟩,h4,h5⟩);rotate_left;·intro a ha;have:(xs++[c]).take ((xs++[c]).length-1)=xs:=fg;rw[this]at ha;exact(h2 a ha).2
 intro a ha;rcases aV.1 ha with ha|ha;·exact(h2 a ha).1
 ·rw[aX.1 ha,hc];have:=h3.2;omega
theorem AmR (hN:1000000≤N){R:List UInt8→Prop} (hR: ∀(st:Nat) (fs:List ApiField) (r:List UInt8),(st=301∨st=302∨st=307)→fs.length≤1→Dq fs≤6000→FX N (st:Int) [] [] fs false=some r→r.length≤7000→R r){u:ApiURL} (hu:KT u){raw:List UInt8} (hr:R raw){d:MadeDice} (hd:M8 d) (hl:d.l.length≤1000):Ok (Ml N d u raw) fun r=>(r.1.length≤200∧∀a,a∈r.1→R a.raw)∧M8 r.2∧r.2.l.length≤1000:=by
 unfold Ml;simp only[AB,AEK];have main: ∀(n:Int) (g:MadeDice),0≤n→n<7→M8 g→g.l.length≤1000→Ok (if(n==0)=true then Option.bind (D8 N u raw) fun y9=>some ([y9],g)else letL ([([97,46,101,120,97,109,112,108,101]:List UInt8),([101,46,101,120,97,109,112,108,101]:List UInt8)]:(List (List UInt8))) fun l11=>Option.bind (BJ N g l11) fun y12=>Option.bind (Af N y12.2 9) fun y14=>Option.bind (Dv N y14.1) fun y16=>grd (AC (([47,101,110,100]:List UInt8).length+y16.length)) (Option.bind (I6 N y14.2 (ApiURL.mk y12.1 0 (([47,101,110,100]:List UInt8)++y16) [] [] false false) (wr .i64 (n-1))) fun y18=>Option.bind (idx y18.1 (wr .i64 ((y18.1.length:Int)-1))) fun x20=>Option.bind (sub y18.1 0 (wr .i64 ((y18.1.length:Int)-1))) fun x21=>Option.bind (D8 N (ApiURL.mk y12.1 0 (([47,101,110,100]:List UInt8)++y16) [] [] false false) raw) fun y22=>grd (Ac (x21.length+1) 80) (Option.bind (FX N 301 [] [] [(ApiField.mk ([108,111,99,97,116,105,111,110]:List UInt8) x20.raw)] false) fun y24=>Option.bind (D8 N u y24) fun y26=>grd (Ac ((x21++[y22]).length+1) 80) (some (((x21++[y22])++[y26]),y18.2))))) fun r=>(r.1.length≤200∧∀a,a∈r.1→R a.raw)∧M8 r.2∧r.2.l.length≤1000:=by
  intro n g n0 n7 g1 g2;refine .ite (fun _=>.bind (Sr (N:=N) hu raw) fun c hc=>.ret ⟨⟨fg,fun a ha=>by rw[aX.1 ha,hc];exact hr⟩,g1,g2⟩) fun hne=>?_;have hn0:n≠0:=by simpa using hne
  refine .letL (.bind (Adf g1 g2 fh fh fh) fun y ⟨hy,d1,d2⟩=>?_);refine .bind (Fu d1 d2 (n:=9) ff ff) fun z ⟨⟨z0,z1⟩,e1,e2⟩=>?_;obtain⟨m,hm⟩: ∃m:Nat,z.1=(m:Int):=⟨z.1.toNat,ff⟩;rw[hm];refine .bind (TP (N:=N) (n:=m) ff ff) fun a ha=>?_;refine .grd (by unfold AC;simp only[ag,an];omega) ?_;have hg:KT ⟨y.1,0,([47,101,110,100]:List UInt8)++a,[],[],false,false⟩:=AC6 ff (by simp only[ah,ag,an];omega);obtain⟨q,hq⟩: ∃q:Nat,n-1=(q:Int):=⟨(n-1).toNat,ff⟩;rw[Aq (n:=n-1) ff,hq];refine .bind (Am8 hN hR (n:=q) ff hg e1 e2) fun w ⟨⟨w1,w2,w3,w4⟩,f1,f2⟩=>?_;have hw:wr .i64 ((w.1.length:Int)-1)=((w.1.length-1:Nat):Int):=by rw[Aq ff];omega
  have hx:idx w.1 ((w.1.length-1:Nat):Int)=some w.1[w.1.length-1]:=by rw[Ei];exact aK ff
  have hs:=A8 w.1 0 (w.1.length-1) ff ff;rw[aJ,be,show((0:Nat):Int)=0 from rfl]at hs;rw[hw,hx,aa,hs,aa];have hraw:=w3 w.1[w.1.length-1] (List.getElem_mem _);have hlen:(w.1.take (w.1.length-1)).length≤101:=by rw[aY];omega
  refine .bind (Sr (N:=N) hg raw) fun c hc=>?_;refine .grd (Gh ff ff) ?_;rw[show(301:Int)=((301:Nat):Int)from rfl];obtain⟨r,hr0,hr2⟩:=ADY (N:=N) (st:=301) ff (ty:=[]) (body:=[]) (fs:=[⟨[108,111,99,97,116,105,111,110],w.1[w.1.length-1].raw⟩]) false fh fh fg (by simp[Dq];omega) hN;rw[hr0,aa];refine .bind (Sr (N:=N) hu r) fun v hv=>?_;refine .grd (Gh (by simp only[ah,ba];omega) ff) (.ret ⟨⟨by simp only[ah,ba];omega,?_⟩,f1,f2⟩);intro b hb;rcases aV.1 hb with hb|hb
  ·rcases aV.1 hb with hb|hb;·exact w4 b hb
   ·rw[aX.1 hb,hc];exact hr
  ·rw[aX.1 hb,hv];have hr':=hr2;simp[Dq]at hr';exact hR 301 _ r ff fg (by simp[Dq];omega) hr0 ff
 refine .bind (Fu hd hl (n:=3) ff ff) fun y ⟨_,d1,d2⟩=>?_;refine .ite (fun _=>?_) fun _=>main 0 _ ff ff d1 d2;exact .bind (Fu d1 d2 (n:=7) ff ff) fun z ⟨⟨z0,z1⟩,e1,e2⟩=>main z.1 _ z0 ff e1 e2
end
end Go.VM
namespace Go.VM
section
variable{N:Nat}
def XB:List UInt8:=[97,99,99,116,58,111,116,104,101,114,64,97,46,101,120,97,109,112,108,101]
def AsQ:List (List UInt8):=[[104,116,116,112,115,58,47,47,97,46,101,120,97,109,112,108,101,47,102,47],[104,116,116,112,115,58,47,47,98,46,101,120,97,109,112,108,101,47,120,63,121,35,122],[104,116,116,112,58,47,47,99,46,101,120,97,109,112,108,101,47],[110,111,116,104,105,110,103]]
def Auz (ab e:List UInt8):List ApiService:=[(ApiService.mk (ab++([35,102,105,108,101,115]:List UInt8)) [([70]:List UInt8)] [e]),(ApiService.mk (ab++([35,107]:List UInt8)) [([75]:List UInt8)] [([104,116,116,112,115,58,47,47,100,46,101,120,97,109,112,108,101]:List UInt8)])]
def Ui (ab:List UInt8):List (List ApiService):=[]::AsQ.map (Auz ab)
theorem ANb{d:MadeDice} (hd:FU d){ab:List UInt8} (hl:ab.length≤1000):Ok (LW N d ab) fun r=>r.1∈Ui ab∧FU r.2:=by unfold LW;refine .bind (Tx hd (n:=3) fh) fun y ⟨_,y1⟩=>?_;refine .ite (fun _=>.ret ⟨dv,y1⟩) fun _=>?_;refine YS (by simp only[ag,an];omega) ?_;refine .letL (.bind (oneG y1 fh) fun z ⟨z1,z2⟩=>?_);refine YS (by simp only[ag,an];omega) (.letL (.ret ⟨?_,z2⟩));exact aQ _ (bo.2 ⟨z.1,z1,rfl⟩)
def Y7 (N:Nat) (ab:List UInt8) (names:List (List UInt8)) (sv:List ApiService):Option (List UInt8):=Option.bind (NC N (ApiDoc.mk ab names [] [] sv)) fun v=>Option.bind (Pv N v) fun y=>some y.1
def AkY:List UInt8:=[123,34,115,117,98,106,101,99,116,34,58]
def Anc:List UInt8:=[123,34,105,100,34,58,49,44,34,108,105,110,107,115,34,58,91,123,125,93,125]
def As8:List UInt8:=[97,112,112,108,105,99,97,116,105,111,110,47,100,105,100,43,106,115,111,110]
def Xf:List UInt8:=[97,112,112,108,105,99,97,116,105,111,110,47,106,114,100,43,106,115,111,110]
def AAZ:List UInt8:=[116,101,120,116,47,104,116,109,108]
def AoT:List UInt8:=[97,112,112,108,105,99,97,116,105,111,110,47,106,115,111,110]
def JJ:List (List UInt8):=[As8,Xf,AAZ,AoT,[]]
theorem kD1:AoT∈JJ∧Xf∈JJ∧Xf∈[Xf,AAZ,([]:List UInt8)]∧AAZ∈[Xf,AAZ,([]:List UInt8)]∧([]:List UInt8)∈[Xf,AAZ,[]]:=fh
theorem Aar{id:ApiID} (hk:id.kind=4){names:List (List UInt8)}{P:List UInt8→Prop} (H: ∀ab,ab∈[id.text,XB]→∀sv,sv∈Ui ab→Ok (Y7 N ab names sv) P) (h1:P AkY) (h2:P Anc) (hlen:id.text.length≤1000){d:MadeDice} (hd:FU d):Ok (LZ N d id names) fun r=>P r.1∧r.2.1∈JJ∧FU r.2.2:=by
 unfold LZ;refine .meet (fun j=>j.1∈[id.text,XB]∧j.2.1∈[Xf,AAZ,[]]∧FU j.2.2) (fun j ⟨j1,j2,j3⟩=>?_) fun k hk'=>?_
 ·refine .meet (fun i=>(∃sv,sv∈Ui j.1∧NC N (ApiDoc.mk j.1 names [] [] sv)=some i.2.1)∧i.1∈JJ∧FU i.2.2) (fun i ⟨⟨sv,i1,i2⟩,i3,i4⟩=>?_) fun k8 hk8=>?_;·obtain⟨b,e1,e2⟩:=H j.1 j1 sv i1;unfold Y7 at e1;rw[i2,aa]at e1;obtain⟨y,e3,e4⟩:=cM.1 e1;cases e4;exact .bind ⟨y,e3,rfl⟩ fun y' hy=>.ret (by subst hy;exact⟨e2,i3,i4⟩)
  ·refine .ite (fun _=>?_) fun hne=>absurd hk (by simpa using hne);have hjl:j.1.length≤1000:=by
    rcases aO.1 j1 with h|h;·rw[h];exact hlen
    ·rw[aX.1 h];decide
   refine .bind (ANb j3 hjl) fun y ⟨y1,y2⟩=>?_;obtain⟨b,e1,e2⟩:=H j.1 j1 y.1 y1;unfold Y7 at e1;obtain⟨v,e3,e4⟩:=cM.1 e1;refine .bind ⟨v,e3,rfl⟩ fun v' hv=>?_;subst hv;refine .letL (.bind (oneG y2 fg) fun z ⟨z1,z2⟩=>?_);refine .ite (fun _=>hk8 _ ⟨⟨y.1,y1,e3⟩,kD1.1,z2⟩) fun _=>hk8 _ ⟨⟨y.1,y1,e3⟩,?_,z2⟩;rcases aO.1 z1 with h|h;·rw[h];decide
   ·rw[aX.1 h];revert j2;generalize j.2.1=t;have: ∀s,s∈[Xf,AAZ,([]:List UInt8)]→s∈JJ:=fh;exact this t
 ·refine .bind (Tx hd (n:=24) fh) fun y ⟨_,y1⟩=>?_;refine .ite (fun _=>hk' _ ⟨by simp[XB],kD1.2.2.1,y1⟩) fun _=>.ite (fun _=>.ret ⟨h1,kD1.2.1,y1⟩) fun _=>.ite (fun _=>hk' _ ⟨fg,kD1.2.2.2.1,y1⟩) fun _=>.ite (fun _=>.ret ⟨h2,kD1.2.1,y1⟩) fun _=>.ite (fun _=>hk' _ ⟨fg,kD1.2.2.2.2,y1⟩) fun _=>hk' _ ⟨fg,kD1.2.2.1,y1⟩
end
end Go.VM
