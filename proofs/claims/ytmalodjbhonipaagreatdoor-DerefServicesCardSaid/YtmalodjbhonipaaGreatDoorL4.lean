import Derived.Test.YtmalodjbhonipaaGreatDoorL3
set_option linter.unusedVariables false
set_option linter.unusedSimpArgs false
namespace Go.VM
section
variable{N:Nat}
theorem Qz (d:Bool) (b s:List UInt8) (h:b.length+s.length≤1000000000):AZ N ⟨d,b⟩ s=some ((s.length:Int),(),⟨true,b++s⟩):=by unfold AZ ER;cases d<;>simp only[av,aR,aE,aa]<;>rw[AU (KN eT)]
def Tf (r:List UInt8) (x c:UInt8):List UInt8:=if c=x then r else [c]
theorem TU{r:List UInt8}{x:UInt8}: ∀ {l:List UInt8},l.contains x=false→l.flatMap (Tf r x)=l
 |[],_=>rfl
 | c::l,h=>by
  rw[aX,Bool.or_eq_false_iff]at h;have hc: ¬c=x:=by rintro rfl;simp at h
  rw[bc,TU h.2,Tf,ag hc];rfl
theorem ATh{r:List UInt8}{x:UInt8}{l:List UInt8} (h:l.contains x=true):l.flatMap (Tf r x)=(AP x l).1++(r++(AP x l).2.1.flatMap (Tf r x)):=by
 induction l with
 |nil=>simp at h
 | cons c t ih=>
  by_cases hc:c=x;·subst hc;rw[FT h,bc,Tf,ah rfl];simp
  ·have e1:(x==c)=false:=by simpa using fun e:x=c=>hc e.symm
   have e2:(c !=x)=true:=by simpa using hc
   have ht:t.contains x=true:=by rw[aX,e1,bd]at h;exact h
   have hi:=ih ht;rw[FT h,aP,e2,bV,e2,bc,hi,Tf,ag hc];rw[FT ht];simp
theorem ACu{l r:List UInt8}{x:UInt8} (hb:l.length≤1000000) (hr:r.length≤3) (k18:Int×Bool×List UInt8→Option (List UInt8)): ∀(k:Nat) (t pre buf:List UInt8) (d:Bool),l=pre++t→t.count x=k→buf.length+3 * t.length≤100000000→∃last pre' buf' d',l=pre'++last∧buf'++last=buf++t.flatMap (Tf r x)∧buf'.length≤100000000∧CK N l [x] r k18 k pre.length d buf=k18 ((pre'.length:Int),d',buf')
 | 0,t,pre,buf,d,h,hk,ho=>by have h0:=ML.1 hk;exact⟨t,pre,buf,d,h,by rw[TU h0],eT,by rw[CK]⟩
 | k+1,t,pre,buf,d,h,hk,ho=>by
  have hl:=a7 List.length h;simp only[aj]at hl;have h1:t.contains x=true:=by
   cases h':t.contains x;·have:=ML.2 h';omega
   ·rfl
  have hlt:=Je h1;have hcnt:t.count x=(AP x t).2.1.count x+1:=by rw[FT h1];exact Qe h1
  have hc:=FE x t;have he:t=(AP x t).1++(x::(AP x t).2.1):=by
   rw[FT h1];have e:=aU (p:=(· !=x)) (l:=t);have hd:t.dropWhile (· !=x)=x::(t.dropWhile (· !=x)).drop 1:=by cases hq:t.dropWhile (· !=x)with |nil=>rw[hq,aI]at e;rw[e]at hlt;omega| cons y ys=>have:=d8 (fun z=>z !=x) t;rw[hq]at this;simp at this;simp[this]
   conv=>lhs;rw[←e,hd]
  have hlen:(AP x t).1.length+1+(AP x t).2.1.length=t.length:=by have:=a7 List.length he;simp only[aj,ae]at this;omega
  have hi:(Go.Lib.indexByte t x)=((AP x t).1.length:Int):=by rw[IB,ah h1,FT h1]
  have hlp:l=(pre++(AP x t).1++[x])++(AP x t).2.1:=by
   rw[h];conv=>lhs;rw[he]
   simp
  obtain⟨last,pre',buf',d',q1,q2,q3,q4⟩:=ACu (x:=x) hb hr k18 k (AP x t).2.1 (pre++(AP x t).1++[x]) (buf++(AP x t).1++r) true hlp eT (by simp only[aj];omega);refine⟨last,pre',buf',d',q1,?_,q3,?_⟩;·rw[q2,ATh h1];simp
  ·have hdl:l.drop pre.length=t:=by rw[h,cq]
   rw[CK,Bp eT,aa,hdl,Zt,aa,hi];have w1:wr .i64 ((pre.length:Int)+((AP x t).1.length:Int))=((pre.length+(AP x t).1.length:Nat):Int):=by rw[AQ eT];omega
   have w2:wr .i64 (((pre.length+(AP x t).1.length:Nat):Int)+(([x]:List UInt8).length:Int))=((pre.length+(AP x t).1.length+1:Nat):Int):=by rw[AQ eW];simp
   have hseg:(l.drop pre.length).take (pre.length+(AP x t).1.length-pre.length)=(AP x t).1:=by rw[hdl,da,FT h1];exact Fv ..
   rw[w1,w2,Cm l _ _ eT eT,aa,hseg,Qz _ _ _ eT,aa];dsimp only;rw[Qz _ _ _ (by simp only[aj];omega),aa];dsimp only;have e9:pre.length+(AP x t).1.length+1=(pre++(AP x t).1++[x]).length:=by simp only[aj,ae,an]
   rw[e9];exact q4
theorem ND (l:List UInt8) (x:UInt8) (r:List UInt8) (hr:r.length=3) (hb:l.length≤1000000):strings_ReplaceAll N l [x] r=some (l.flatMap (Tf r x)):=by
 have hcl:l.count x≤l.length:=List.count_le_length;have hcnt:strings_Count N l [x]=some ((l.count x:Nat):Int):=by unfold strings_Count;rw[ag (by exact cp),ah (by rfl),show idx [x] 0=some x from rfl,aa,Kh];rfl
 have hne: ¬(([x]:List UInt8)==r)=true:=by intro h;have:=bw.1 h;rw[←this]at hr;simp at hr
 unfold strings_ReplaceAll strings_Replace;dsimp only[AB];rw[ag hne,ag eV,hcnt,aa];by_cases h0:l.count x=0;·rw[ah (by rw[h0];rfl),aa,TU (ML.1 h0)]
 rw[ag (by simpa using h0),ah eV,ah rfl];have wg:wr .i64 ((l.length:Int)+(wr .i64 (((l.count x:Nat):Int) * (wr .i64 ((r.length:Int)-(([x]:List UInt8).length:Int))))))=((l.length+l.count x * 2:Nat):Int):=by rw[hr,show wr .i64 (((3:Nat):Int)-(([x]:List UInt8).length:Int))=2 from rfl,AQ (n:=((l.count x:Nat):Int) * 2) eT,AQ eT];simp
 rw[wg];unfold Ev;rw[AU eT,aa,ah eU,AU eT,Int.sub_zero,bl];obtain⟨last,pre',buf',d',q1,q2,q3,q4⟩:=ACu (N:=N) (l:=l) (r:=r) (x:=x) hb eT (fun j17:Int×Bool×(List UInt8)=>Option.bind (sub l j17.1 (l.length:Int)) fun x41=>Option.bind (AZ N (StringsBuilder.mk j17.2.1 j17.2.2) x41) fun y42=>Option.bind (DF N y42.2.2) fun y44=>some (y44.1)) (l.count x) l [] [] true rfl rfl eW;have hl:=a7 List.length q1;simp only[aj]at hl;rw[show(([]:List UInt8).length:Int)=0 from rfl]at q4;rw[q4,Bp eT,aa,show l.drop pre'.length=last by rw[q1,cq],Qz _ _ _ (by dsimp only;omega),aa];unfold DF;simp only[aa];rw[q2];rfl
end
end Go.VM
namespace Go.VM
section
variable{N:Nat}
def Er:Nat→List UInt8→Option (List (Bool×UInt8)) |0,_=>none|_+1,[]=>some []|k+1,c::t=>if c=37 then(match JK t with|some x=>(Er k (t.drop 2)).map ((true,x):: ·)|none=>none)else(Er k t).map ((false,c):: ·)
theorem AAC: ∀(k k':Nat) (t:List UInt8),t.length<k→t.length<k'→Er k t=Er k' t
 |0,_,_,h,_=>by omega
 |_,0,_,_,h=>by omega
 |k+1,k'+1,[],_,_=>rfl
 | k+1,k'+1,c::t,h,h'=>by
  simp only[ae]at h h';rw[Er,Er];split;·cases he:JK t with |none=>rfl|some x=>simp only;rw[AAC k k' (t.drop 2) (by rw[aw];omega) (by rw[aw];omega)]
  ·rw[AAC k k' t eT eT]
def unS (t:List UInt8):Option (List (Bool×UInt8)):=Er (t.length+1) t
theorem ANx{k:Nat}{t:List UInt8} (h:t.length<k):Er k t=unS t:=AAC k _ t h (ef _)
theorem XI: ∀(k:Nat) (t out:List UInt8),t.length<k→Nb k t out=(match Er k t with|some us=>(out++us.map (·.2),0)|none=>([],2))
 |0,_,_,h=>by omega
 |k+1,[],out,_=>by simp[Nb,Er]
 | k+1,c::t,out,h=>by
  simp only[ae]at h;rw[Nb,Er];split;·cases he:JK t with |none=>rfl| some x=>simp only;rw[XI k (t.drop 2) (out++[x]) (by rw[aw];omega)];cases Er k (t.drop 2)<;>simp
  ·rw[XI k t (out++[c]) eT];cases Er k t<;>simp
def nuC (u:Bool×UInt8):List UInt8:=if u.1=true then(if Gp u.2=true then [u.2]else Lr u.2)else [u.2]
def okN (also:List UInt8) (u:Bool×UInt8):Bool:=u.1||(Gp u.2||also.contains u.2)
theorem XE (also:List UInt8): ∀(k:Nat) (t out:List UInt8) (us:List (Bool×UInt8)),t.length<k→Er k t=some us→NL also k t out=if us.all (okN also)=true then(out++us.flatMap nuC,0)else([],1)
 |0,_,_,_,h,_=>by omega
 | k+1,[],out,us,_,hu=>by rw[Er]at hu;cases hu;simp[NL]
 | k+1,c::t,out,us,h,hu=>by
  simp only[ae]at h;rw[Er]at hu;rw[NL];split at hu;·rename_i hc;rw[ah hc];cases he:JK t with |none=>rw[he]at hu;cases hu| some x=>rw[he]at hu;simp only[bf]at hu;obtain⟨vs,hv,rfl⟩:=hu;simp only;rw[XE also k (t.drop 2) _ vs (by rw[aw];omega) hv,aG,show okN also (true,x)=true from rfl,bu,bc,←bb];rfl
  ·rename_i hc;rw[ag hc];simp only[bf]at hu;obtain⟨vs,hv,rfl⟩:=hu;have ih:=XE also k t (out++[c]) vs eT hv;cases AO:(Gp c||also.contains c);·rw[ag eV,aG,show okN also (false,c)=false from AO,dk,ag eV]
   ·rw[ah rfl,ih,aG,show okN also (false,c)=true from AO,bu,bc,←bb];rfl
theorem AU8:KU 58=false:=eV
theorem AQK{p r:List UInt8} (h58: ∀x,x∈p→x≠58):JK (p++58::r)=JK p∧(JK p≠none→2≤p.length):=by
 match p with
 | []=>refine⟨?_,fun h=>absurd rfl h⟩;cases r with |nil=>rfl|cons y r=>simp[JK,AU8]
 |[a]=>exact⟨by simp[JK,AU8],fun h=>absurd rfl h⟩
 |a::b::q=>exact⟨rfl,fun _=>by simp⟩
theorem Sn: ∀(k:Nat) (p r:List UInt8),(p++58::r).length<k→(∀x,x∈p→x≠58)→Er k (p++58::r)=(unS p).bind fun u=>(unS r).map fun v=>u++(false,58)::v
 |0,_,_,h,_=>by omega
 | k+1,[],r,h,_=>by simp only[ba,ae]at h;rw[ba,Er,ag eV,ANx eT];have:unS []=some []:=rfl;rw[this];rfl
 | k+1,c::p,r,h,h58=>by
  simp only[aJ,ae,aj]at h;have hp58: ∀x,x∈p→x≠58:=fun x AO=>h58 x (by simp[AO]);rw[aJ,Er];have hunS:unS (c::p)=if c=37 then(match JK p with|some x=>(Er (p.length+1) (p.drop 2)).map ((true,x):: ·)|none=>none)else(Er (p.length+1) p).map ((false,c):: ·):=rfl;rw[hunS];obtain⟨e1,e2⟩:=AQK (r:=r) hp58;split;·rw[e1];cases he:JK p with |none=>rfl| some x=>have h2:2≤p.length:=e2 (by rw[he];simp);simp only;rw[cd h2,Sn k (p.drop 2) r (by simp only[aj,aw,ae];omega) (fun y hy=>hp58 y (cA hy)),ANx (t:=p.drop 2) (by rw[aw];omega)];cases unS (p.drop 2)with |none=>rfl|some u=>cases unS r<;>rfl
  ·rw[Sn k p r (by simp only[aj,ae];omega) hp58,ANx (t:=p) eT];cases unS p with |none=>rfl|some u=>cases unS r<;>rfl
theorem Za (x:UInt8) (AO:KU x=false) (h37:x≠37): ∀(k:Nat) (t:List UInt8) (us:List (Bool×UInt8)),Er k t=some us→t.contains x=us.any fun u=>!u.1&&u.2==x
 |0,_,_,h=>by cases h
 |k+1,[],us,h=>by rw[Er]at h;cases h;rfl
 | k+1,c::t,us,h=>by
  rw[Er]at h;split at h
  ·rename_i hc;match t,h with
   |[],h=>cases h
   |[_],h=>cases h
   | a::b::r,h=>
    simp only[JK]at h;by_cases hh:(KU a&&KU b)=true
    ·rw[ah hh]at h;simp only[bf]at h;obtain⟨vs,hv,rfl⟩:=h;have ih:=Za x AO h37 k r vs hv;rw[az]at hh;have ha:(x==a)=false:=by simp only[ck,dp];rintro rfl;rw[AO]at hh;cases hh.1
     have hb:(x==b)=false:=by simp only[ck,dp];rintro rfl;rw[AO]at hh;cases hh.2
     have hcc:(x==c)=false:=by simp only[ck,dp];rintro rfl;exact h37 hc
     rw[aX,aX,aX,ha,hb,hcc,ih];simp
    ·rw[ag hh]at h;cases h
  ·simp only[bf]at h;obtain⟨vs,hv,rfl⟩:=h;rw[aX,Za x AO h37 k t vs hv,b9];congr 1;simp only[bg,bu];exact Bool.beq_comm
theorem AFU (f:UInt8→Bool) (hf: ∀c,KU c=true→f c=true) (h37:f 37=true): ∀(k:Nat) (t:List UInt8) (us:List (Bool×UInt8)),Er k t=some us→t.all f=us.all fun u=>u.1||f u.2
 |0,_,_,h=>by cases h
 |k+1,[],us,h=>by rw[Er]at h;cases h;rfl
 | k+1,c::t,us,h=>by
  rw[Er]at h;split at h
  ·rename_i hc;match t,h with
   |[],h=>cases h
   |[_],h=>cases h
   | a::b::r,h=>
    simp only[JK]at h;by_cases hh:(KU a&&KU b)=true;·rw[ah hh]at h;simp only[bf]at h;obtain⟨vs,hv,rfl⟩:=h;have ih:=AFU f hf h37 k r vs hv;rw[az]at hh;rw[aG,aG,aG,hf a hh.1,hf b hh.2,hc,h37,ih];simp
    ·rw[ag hh]at h;cases h
  ·simp only[bf]at h;obtain⟨vs,hv,rfl⟩:=h;rw[aG,AFU f hf h37 k t vs hv,aG];simp
end
end Go.VM
namespace Go.VM
section
variable{N:Nat}
def Ie (c:UInt8):Bool:=H7 c||(Fy c||([46,45,95]:List UInt8).contains c)
theorem VR (c:UInt8):Io N (AC c)=some (Ie c):=by unfold Io Ie;rw[Nw,aa,OH,aa,TF c _ eV,aa];cases H7 c<;>cases Fy c<;>rfl
theorem Oz (c:UInt8):(Gp c=(Ie c||c==126))∧(Ie c=true→c≠37∧c≠58∧c≠126)∧(KU c=true→Ie c=true):=by
 have key:=Ct (f:=fun n=>(Gp (UInt8.ofNat n)==(Ie (UInt8.ofNat n)||UInt8.ofNat n==126))&&((!Ie (UInt8.ofNat n))||(decide (UInt8.ofNat n≠37)&&decide (UInt8.ofNat n≠58)&&decide (UInt8.ofNat n≠126)))&&((!KU (UInt8.ofNat n))||Ie (UInt8.ofNat n))) (g:=fun _=>true) (by kernel_rfl) c;simp only[bL,az,cj,dY,bw,al]at key;obtain⟨⟨k1,k2⟩,k3⟩:=key;refine⟨k1,fun h=>?_,fun h=>?_⟩
 ·rcases k2 with k|⟨⟨a,b⟩,d⟩;·rw[h]at k;cases k
  ·exact⟨a,b,d⟩
 ·rcases k3 with k|k;·rw[h]at k;cases k
  ·exact k
def NB (b:UInt8):List UInt8:=if Ie b=true then [b]else Lr b
theorem NI (b:UInt8):(NB b).length≤3∧1≤(NB b).length:=by unfold NB;split<;>simp[Lr]
def AFF:UInt8→List UInt8:=Tf [37,55,69] 126
theorem AQY (b:UInt8):(Lr b).flatMap AFF=Lr b:=by have key:=Ct (f:=fun n=>decide (([37,UN (n / 16),UN (n % 16)]:List UInt8).flatMap AFF=[37,UN (n / 16),UN (n % 16)])) (g:=fun _=>true) (by kernel_rfl) b;simp only[al]at key;exact key
theorem ASL (b:UInt8):(if Gp b=true then [b]else Lr b).flatMap AFF=NB b:=by
 obtain⟨k1,k2,_⟩:=Oz b;unfold NB;rw[k1];cases hp:Ie b
 ·by_cases h:b=126;·subst h;rfl
  ·rw[show(b==126)=false by simpa using h,cW,ag eV,AQY]
 ·obtain⟨_,_,h3⟩:=k2 hp;rw[dh,ah rfl];simp[AFF,Tf,h3]
def guC (u:Bool×UInt8):List UInt8:=if u.1=true then NB u.2 else [u.2]
def Ou (u:Bool×UInt8):Bool:=u.1||(Ie u.2||u.2==58)
theorem AVT{u:Bool×UInt8} (h:Ou u=true):(nuC u).flatMap AFF=guC u:=by
 obtain⟨e,c⟩:=u;unfold nuC guC;cases e
 ·simp only[av,aR];have hc:c≠126:=by rintro rfl;simp only[Ou,bd]at h;exact absurd h eV
  simp[AFF,Tf,hc]
 ·simp only[aE];exact ASL c
theorem AKh{us:List (Bool×UInt8)} (h:us.all Ou=true):(us.flatMap nuC).flatMap AFF=us.flatMap guC:=by induction us with |nil=>rfl| cons u us ih=>rw[aG,az]at h;rw[bc,dF,AVT h.1,ih h.2,bc]
def Pi (s:List UInt8):List UInt8×Int:=match unS s with |none=>([],2)|some us=>if us.all Ou=true then(us.flatMap guC,0)else([],1)
theorem AYR (us:List (Bool×UInt8)):(us.all (okN [58])&&!(us.any fun u=>!u.1&&u.2==126))=us.all Ou:=by
 induction us with
 |nil=>rfl
 | cons u us ih=>
  rw[aG,b9,aG,←ih];obtain⟨e,c⟩:=u;obtain⟨k1,k2,_⟩:=Oz c;have hu:(okN [58] (e,c)&&!(!e&&c==126))=Ou (e,c):=by
   unfold okN Ou;cases e
   ·simp only[bd,bg,bu];rw[k1,show([58]:List UInt8).contains c=(c==58) by simp[aX];rfl];by_cases h126:c=126;·subst h126;rfl
    ·rw[show(c==126)=false by simpa using h126];simp
   ·simp
  rw[←hu];cases okN [58] (e,c)<;>cases (!e&&c==126)<;>cases us.all (okN [58])<;>cases (us.any fun u=>!u.1&&u.2==126)<;>rfl
theorem AR8 (s:List UInt8) (hb:s.length≤16000) (hN:20000≤N): ∃v,IG N s=some (v,(Pi s).2)∧((Pi s).2=0→v=(Pi s).1):=by
 unfold IG;have hd:ES N s=Nb N s []:=by unfold ES;rw[ag eT]
 have hn:Bj N s [58]=NL [58] N s []:=by unfold Bj;rw[ag eT]
 have hun:Er N s=unS s:=ANx eT;rw[Fu _ _ hN,aa,TH _ hN,aa,hd,hn,XI N s [] eT,hun];dsimp only[AB];unfold Pi;cases hu:unS s with
 |none=>exact⟨[],rfl,fun _=>rfl⟩
 | some us=>
  simp only;rw[ag eV,XE [58] N s [] us eT (by rw[hun];exact hu),AAv,aa];have h126:s.contains 126=us.any fun u=>!u.1&&u.2==126:=Za 126 eV eV _ s us hu;have hk:=AYR us;rw[←h126]at hk;have hlen:=F7 (N:=N) s [58];rw[hn,XE [58] N s [] us eT (by rw[hun];exact hu)]at hlen;cases h1:us.all (okN [58]);·rw[h1,dk]at hk;rw[←hk];simp only[av,aR];rw[ag eV,ND _ _ _ rfl eU,aa];exact⟨_,rfl,fun h=>by cases h⟩
  ·rw[h1,bu]at hk;rw[h1]at hlen;simp only[aE,ba]at hlen⊢;rw[ah eV];cases h2:s.contains 126;·rw[h2]at hk;rw[←hk];simp only[bg,av,aR,aE];rw[ND _ _ _ rfl eT,aa];exact⟨_,rfl,fun _=>AKh hk.symm⟩
   ·rw[h2]at hk;rw[←hk];simp only[bI,av,aR,aE];rw[ND _ _ _ rfl eT,aa];exact⟨_,rfl,fun h=>by cases h⟩
end
end Go.VM
namespace Go.VM
section
variable{N:Nat}
theorem Zd{p:UInt8→Bool}{x:UInt8}: ∀ {l:List UInt8},x∈l.takeWhile p→p x=true
 |[],h=>by simp at h
 | c::l,h=>by
  rw[aP]at h;split at h
  ·rename_i hc;rcases aL.1 h with rfl|h;·exact hc
   ·exact Zd h
  ·simp at h
def ZT (c:UInt8):Bool:=Ie c||c==37
theorem AGy: ∀(k:Nat) (t:List UInt8) (us:List (Bool×UInt8)),Er k t=some us→∀u,u∈us→u.1=true∨u.2≠37
 |0,_,_,h,_,_=>by cases h
 |k+1,[],us,h,u,hu=>by rw[Er]at h;cases h;cases hu
 | k+1,c::t,us,h,u,hu=>by
  rw[Er]at h;split at h
  ·cases he:JK t with
   |none=>rw[he]at h;cases h
   | some x=>
    rw[he]at h;simp only[bf]at h;obtain⟨vs,hv,rfl⟩:=h;rcases aL.1 hu with rfl|hu;·exact .inl rfl
    ·exact AGy k _ vs hv u hu
  ·rename_i hc;simp only[bf]at h;obtain⟨vs,hv,rfl⟩:=h;rcases aL.1 hu with rfl|hu;·exact .inr hc
   ·exact AGy k t vs hv u hu
theorem AVJ: ∀ {t:List UInt8}{us:List (Bool×UInt8)},unS t=some us→(us=[]↔t=[])
 | [],us,h=>by have:unS []=some []:=rfl;rw[this]at h;cases h;simp
 | c::t,us,h=>by
  unfold unS at h;rw[Er]at h;constructor
  ·rintro rfl;split at h;·cases he:JK t with |none=>rw[he]at h;cases h|some x=>rw[he]at h;simp at h
   ·simp at h
  ·intro h;cases h
theorem Rf{p:List UInt8} (hb:p.length≤16000) (hN:20000≤N):ES N p=(match unS p with|some us=>(us.map (·.2),0)|none=>([],2)):=by unfold ES;rw[ag eT,XI N p [] eT,ANx eT];cases unS p<;>simp
def IM (N:Nat) (p:List UInt8):List UInt8:=(ES N p).1.flatMap NB
def jn (N:Nat):Bool→List (List UInt8)→List UInt8 |_,[]=>[]|true,p::ps=>IM N p++jn N false ps|false,p::ps=>58::(IM N p++jn N false ps)
def Qj (N:Nat) (p:List UInt8):Bool:=(ES N p).2==0
theorem AAg{p:List UInt8}{u:List (Bool×UInt8)} (hb:p.length≤16000) (hN:20000≤N) (h58:p.contains 58=false) (hu:unS p=some u):Qj N p=true∧p.all ZT=u.all Ou∧(u.all Ou=true→IM N p=u.flatMap guC):=by
 have hlit:=AGy _ p u hu;have h58':=Za 58 eV eV _ p u hu;rw[h58]at h58';have hno: ∀v,v∈u→v.1=true∨(v.2≠37∧v.2≠58):=fun v hv=>by
  rcases hlit v hv with h|h;·exact .inl h
  ·have:=List.any_eq_false.1 h58'.symm v hv;cases hv1:v.1;·refine .inr ⟨h,fun e=>?_⟩;rw[hv1,e]at this;exact this rfl
   ·exact .inl rfl
 refine⟨by unfold Qj;rw[Rf hb hN,hu];rfl,?_,fun hok=>?_⟩
 ·rw[AFU ZT (fun c hc=>by unfold ZT;rw[(Oz c).2.2 hc];rfl) eV _ p u hu];clear hu h58';induction u with
  |nil=>rfl
  | cons v u ih=>
   rw[aG,aG,ih (fun w hw=>hlit w (by simp[hw])) (fun w hw=>hno w (by simp[hw]))];congr 1;unfold Ou ZT;rcases hno v (by simp)with h|⟨h1,h2⟩;·rw[h];rfl
   ·rw[show(v.2==37)=false by simpa using h1,show(v.2==58)=false by simpa using h2]
 ·unfold IM;rw[Rf hb hN,hu];clear hu h58' hlit;induction u with
  |nil=>rfl
  | cons v u ih=>
   rw[aG,az]at hok;have ih':=ih (fun w hw=>hno w (by simp[hw])) hok.2;simp only[aK,bc]at ih'⊢;rw[ih'];congr 1;unfold guC;rcases hno v (by simp)with h|⟨h1,h2⟩;·rw[h];rfl
   ·cases hv1:v.1
    ·have hpl:Ie v.2=true:=by have:=hok.1;unfold Ou at this;rw[hv1,show(v.2==58)=false by simpa using h2,cW,bd]at this;exact this
     rw[ag eV];unfold NB;rw[ah hpl]
    ·rfl
theorem ASg (hN:20000≤N): ∀(n:Nat) (l:List UInt8),l.length≤n→l.length≤16000→(unS l=none→(Al 58 l).all (Qj N)=false)∧(∀us,unS l=some us→(Al 58 l).all (Qj N)=true∧((Al 58 l).all fun p=>p.all ZT)=us.all Ou∧(us.all Ou=true→jn N true (Al 58 l)=us.flatMap guC)):=by
 intro n;induction n with
 | zero=>
  intro l hl _;have:l=[]:=aY eT;subst this;refine⟨fun h=>(by cases h),fun us h=>?_⟩;have e:unS []=some []:=rfl;rw[e]at h;cases h;refine⟨?_,rfl,fun _=>?_⟩;·simp only[Al,aG,eB,dw];unfold Qj;rw[Rf eU hN];rfl
  ·simp only[Al,jn,aI,IM];rw[Rf eU hN];rfl
 | succ n ih=>
  intro l hl hb;cases hc:l.contains 58
  ·have hs:Al 58 l=[l]:=by rw[Ju,Lf hc];rfl
   rw[hs];refine⟨fun h=>?_,fun us h=>?_⟩;·simp only[aG,eB,dw];unfold Qj;rw[Rf hb hN,h];rfl
   ·obtain⟨r1,r2,r3⟩:=AAg hb hN hc h;refine⟨by simp[r1],by simpa using r2,fun hk=>?_⟩;simp only[jn,aI];exact r3 hk
  ·have hlt:=Je hc;have hs:Al 58 l=(AP 58 l).1::Al 58 (AP 58 l).2.1:=by rw[Ju 58 l,ah (by rw[AIP,hc])]
   have he:l=(AP 58 l).1++58::(AP 58 l).2.1:=by
    rw[FT hc];have e:=aU (p:=(· !=(58:UInt8))) (l:=l);have hd:l.dropWhile (· !=(58:UInt8))=58::(l.dropWhile (· !=(58:UInt8))).drop 1:=by cases hq:l.dropWhile (· !=(58:UInt8))with |nil=>rw[hq,aI]at e;rw[e]at hlt;omega| cons y ys=>have:=d8 (fun z=>z !=(58:UInt8)) l;rw[hq]at this;simp at this;simp[this]
    conv=>lhs;rw[←e,hd]
   have hp:(AP 58 l).1.contains 58=false:=by
    rw[FT hc];cases h:(l.takeWhile (· !=(58:UInt8))).contains 58;·rfl
    ·have hm:(58:UInt8)∈l.takeWhile (· !=(58:UInt8)):=by simpa using h
     have:=Zd hm;simp at this
   have hp': ∀x,x∈(AP 58 l).1→x≠58:=fun x AO e=>by
    subst e;have:(AP 58 l).1.contains 58=true:=by simpa using AO
    rw[hp]at this;cases this
   generalize (AP 58 l).1=p at *;generalize (AP 58 l).2.1=r at *;have hlen:=a7 List.length he;simp only[aj,ae]at hlen;have hun:unS l=(unS p).bind fun u=>(unS r).map fun v=>u++(false,58)::v:=by
    unfold unS;conv=>lhs;rw[he]
    exact Sn _ p r (by simp only[aj,ae];omega) hp'
   obtain⟨i1,i2⟩:=ih r eT eT;rw[hs,aG,aG];refine⟨fun h=>?_,fun us h=>?_⟩
   ·rw[hun]at h;cases hu:unS p with
    | none=>
     have:Qj N p=false:=by unfold Qj;rw[Rf eT hN,hu];rfl
     rw[this];rfl
    | some u=>rw[hu]at h;simp only[aa,Option.map_eq_none_iff]at h;rw[i1 h,Bool.and_false]
   ·rw [hun]at h;cases hu:unS p with
    |none=>rw[hu]at h;cases h
    | some u=>
     rw[hu]at h;simp only[aa,bf]at h;obtain⟨v,hv,rfl⟩:=h;obtain⟨j1,j2,j3⟩:=i2 v hv;obtain⟨r1,r2,r3⟩:=AAg eT hN hp hu;have h58:Ou (false,58)=true:=rfl;refine⟨by rw[r1,j1];rfl,?_,fun hk=>?_⟩;·rw[r2,j2,List.all_append,aG,h58,bu]
     ·rw[List.all_append,aG,h58,bu,az]at hk;rw[dF,bc,←r3 hk.1,←j3 hk.2];cases hsr:Al 58 r with |nil=>exact absurd hsr (He 58 r)|cons q qs=>simp only[jn];rfl
end
end Go.VM
namespace Go.VM
section
variable{N:Nat}
def mB (c:UInt8):Bool:=Fy c||(!decide (AC c<97)&&!decide (AC c>122))
theorem TN (k:Unit→Option Bool): ∀l:List UInt8,Eh N k l=if l.all mB=true then k ()else some false |[]=>by rw[Eh];rfl| c::l=>by rw[Eh];dsimp only[AB];rw[PZ,aa,TN k l,aG];unfold mB;cases Fy c<;>cases decide (AC c<97)<;>cases decide (AC c>122)<;>simp
theorem Tt (k:Unit→Option Bool): ∀l:List UInt8,Du N k l=if l.all mB=true then k ()else some false |[]=>by rw[Du];rfl| c::l=>by rw[Du];dsimp only[AB];rw[OH,aa,Tt k l,aG];unfold mB;cases Fy c<;>cases decide (AC c<97)<;>cases decide (AC c>122)<;>simp
def Ty (l:List UInt8):Bool:=l.all mB&&!(l==[])
theorem APl (l:List UInt8) (hb:l.length≤1000000):Kw N l=some (Ty l):=by unfold Kw Ty;rw[AB,BR eT,TN];cases l.all mB<;>simp
theorem AQi (l:List UInt8) (hb:l.length≤1000000):JP N l=some (Ty l):=by unfold JP Ty;rw[AB,BR eT,Tt];cases l.all mB<;>simp
theorem AR0 (l:List UInt8) (c:UInt8) (hb:l.length≤1000000):strings_HasSuffix N l [c]=some (l.getLast?==some c):=by
 unfold strings_HasSuffix DJ;rcases eJ l with rfl|⟨l,x,rfl⟩;·rfl
 ·rw[eK]at *;have hb':l.length≤1000000:=by simp at hb;omega
  rw[ah eW,show wr .i64 (((l++[x]).length:Int)-(([c]:List UInt8).length:Int))=((l.length:Nat):Int) by rw[AQ (by simp only[aj,ae,an];omega)];simp,Bp eU,aa,aa,cq];simp
def Mc:ApiDID:=⟨[],[]⟩
def AFW (l:List UInt8):Bool:=l==[]||l.getLast?==some 58
def Lu (s:List UInt8):ApiDID×Int:=if s.length>4096 then(Mc,5) else if preB [100,105,100,58] s=false then(Mc,60) else if(AP 58 (s.drop 4)).2.2=false then(Mc,6) else if Ty (AP 58 (s.drop 4)).1=false then(Mc,100) else if((Pi (AP 58 (s.drop 4)).2.1).2 !=0)=true then(Mc,(Pi (AP 58 (s.drop 4)).2.1).2) else if AFW (Pi (AP 58 (s.drop 4)).2.1).1=true then(Mc,3) else(⟨(AP 58 (s.drop 4)).1,(Pi (AP 58 (s.drop 4)).2.1).1⟩,0)
theorem AUL (u:Bool×UInt8):(guC u).length≤3:=by have:=NI u.2;unfold guC;split<;>simp<;>omega
theorem AFX: ∀(k:Nat) (t:List UInt8) (us:List (Bool×UInt8)),Er k t=some us→us.length≤t.length
 |0,_,_,h=>by cases h
 |k+1,[],us,h=>by rw[Er]at h;cases h;simp
 | k+1,c::t,us,h=>by
  rw[Er]at h;split at h;·cases he:JK t with |none=>rw[he]at h;cases h| some x=>rw[he]at h;simp only[bf]at h;obtain⟨vs,hv,rfl⟩:=h;have:=AFX k _ vs hv;simp only[aw,ae]at *;omega
  ·simp only[bf]at h;obtain⟨vs,hv,rfl⟩:=h;have:=AFX k _ vs hv;simp only[ae];omega
theorem TQ{α:Type}{f:α→List UInt8}{n:Nat} (h: ∀x,(f x).length≤n): ∀l:List α,(l.flatMap f).length≤n * l.length |[]=>by simp| x::l=>by have:=TQ h l;have:=h x;rw[bc,aj,ae,Nat.mul_succ];omega
theorem ABE (s:List UInt8):(Pi s).1.length≤3 * s.length:=by
 unfold Pi;cases hu:unS s with
 |none=>simp
 | some us=>
  simp only;split;·have h1:=TQ AUL us;have h2:=AFX _ s us hu;simp only;omega
  ·simp
theorem AIF (s:List UInt8) (hb:s.length≤1000000) (hN:20000≤N):Hm N s=some (Lu s):=by
 unfold Hm Lu;by_cases h1:s.length>4096;·rw[ah eW,ah h1];rfl
 rw[ag eW,ag h1,AHT,aa];cases hp:preB [100,105,100,58] s;·rfl
 have hl:=FE 58 (s.drop 4);rw[aw]at hl;simp only[aE,ae,an,bp,Nat.reduceAdd];rw[ag (by decide: ¬(true=false)),Kv 58 _ (by rw[aw];omega),aa];cases hc:(AP 58 (s.drop 4)).2.2;·rfl
 simp only[aE];rw[ag (by decide: ¬(true=false)),APl _ eT,aa];cases hm:Ty (AP 58 (s.drop 4)).1;·rfl
 simp only[aE];have hcl:=ABE (AP 58 (s.drop 4)).2.1;obtain⟨v,e1,e2⟩:=AR8 (N:=N) (AP 58 (s.drop 4)).2.1 eT hN;rw[ag (by decide: ¬(true=false)),e1,aa];by_cases h5:((Pi (AP 58 (s.drop 4)).2.1).2 !=0)=true;·rw[ah h5,ah h5];rfl
 rw[ag h5,ag h5];have hv:=e2 (by simpa using h5);subst hv;dsimp only[AB];rw[AR0 _ _ eT,aa];unfold AFW;cases ((Pi (AP 58 (s.drop 4)).2.1).1==[])<;>cases ((Pi (AP 58 (s.drop 4)).2.1).1.getLast?==some 58)<;>rfl
theorem Vr{l:List UInt8} (hb:l.length≤1000000) (k:List UInt8→Option (List UInt8)): ∀(t pre out:List UInt8),l=pre++t→out.length≤3 * pre.length→Cb N l k t (pre.length:Int) out=k (out++t.flatMap NB)
 |[],pre,out,h,_=>by rw[Cb];simp
 | c::t,pre,out,h,ho=>by
  have hl:=a7 List.length h;simp only[aj,ae]at hl;have hsub:sub l (pre.length:Int) ((pre.length:Int)+1)=some [c]:=by rw[show(pre.length:Int)+1=((pre.length+1:Nat):Int) by omega,Cm l _ _ eT eT,h,cq];simp
  have hel:=NI c;have nxt: ∀x:List UInt8,x=NB c→Cb N l k t ((pre.length:Int)+1) (out++x)=k (out++(c::t).flatMap NB):=fun x AO=>by have:=Vr hb k t (pre++[c]) (out++x) (by rw[h];simp) (by rw[AO];simp only[aj,ae,an];omega);rw[bc,←bb,←AO,←this];congr 1;simp
  rw[Cb];dsimp only[AB];rw[VR,aa,hsub,aa,RV,aa];cases hp:Ie c;·rw[ag eV,BR (by simp[Lr];omega)];exact nxt _ (by unfold NB;rw[hp];rfl)
  ·rw[ah rfl,BR eW];exact nxt _ (by unfold NB;rw[hp];rfl)
theorem AMf (l:List UInt8) (hb:l.length≤1000000):IV N l=some (l.flatMap NB):=by unfold IV;rw[AB,BR eT];have:=Vr (N:=N) hb (fun j1=>some j1) l [] [] rfl eU;simpa using this
theorem rd1 (hN:20000≤N) (k:Unit→Option (ApiDID×Int)): ∀ps:List (List UInt8),Cn N k ps=if ps.all (Qj N)=true then k ()else some (Mc,2)
 |[]=>by rw[Cn];rfl
 | p::ps=>by
  rw[Cn,O6 _ hN,aa,rd1 hN k ps,aG];unfold Qj;cases h:((ES N p).2==0);·rw[ah (by simpa[bne]using h)];rfl
  ·rw[ag (by simpa[bne]using h),bu]
theorem rd3 (k:Unit→Option (ApiDID×Int)): ∀l:List UInt8,Cj N k l=if l.all ZT=true then k ()else some (Mc,1) |[]=>by rw[Cj];rfl| c::l=>by rw[Cj];dsimp only[AB];rw[VR,aa,rd3 k l,aG,bne,UE];unfold ZT;have e:(c==37)=decide (c=37):=rfl;rw[e];cases Ie c<;>cases decide (c=37)<;>simp[Mc]
theorem AO4 (p:List UInt8):(IM N p).length≤3 * p.length:=by have h1:=TQ (fun x=>(NI x).1) (ES N p).1;have h2:=Sq (N:=N) p;unfold IM;omega
theorem rd2 (hN:20000≤N) (k:List UInt8→Option (ApiDID×Int)): ∀(ps:List (List UInt8)) (i:Int) (acc:List UInt8),0≤i→(∀p,p∈ps→p.length≤20000)→acc.length+60001 * ps.length≤1000000000→Bb N k ps i acc=if(ps.all fun p=>p.all ZT)=true then k (acc++jn N (decide (i=0)) ps)else some (Mc,1)
 |[],i,acc,_,_,_=>by rw[Bb];cases decide (i=0)<;>simp[jn]
 | p::ps,i,acc,hi,hp,ha=>by
  have hpl:=hp p eU;have hpt:=AO4 (N:=N) p;simp only[ae,Nat.mul_succ]at ha;have ih:=fun acc' h'=>rd2 hN k ps (i+1) acc' eT (fun q hq=>hp q (by simp[hq])) h';have hd1:decide (i+1=0)=false:=aO eT;rw[hd1]at ih;rw[Bb];dsimp only[AB];rw[BR eT,rd3,O6 _ hN,aa,aG];cases h1:p.all ZT;·rfl
  rw[ah rfl,bu];have hdl:=Sq (N:=N) p;rw[AMf _ eT,aa];change (if decide (i>0)=true then grd _ (grd (AL ((acc++[58]).length+(IM N p).length)) (Bb N k ps (i+1) (acc++[58]++IM N p)))else grd (AL (acc.length+(IM N p).length)) (Bb N k ps (i+1) (acc++IM N p)))=_;by_cases h0:i=0;·rw[ag eW,aF h0,BR eT,ih _ (by simp only[aj];omega)];simp only[jn,bb]
  ·rw[ah eW,aO h0,BR eW,BR eW,ih _ (by simp only[aj,ae,an];omega)];simp only[jn,bb,aJ,ba]
theorem APU (b:UInt8):(NB b).getLast?≠some 58:=by have key:=Ct (f:=fun n=>decide ((NB (UInt8.ofNat n)).getLast?≠some 58)) (g:=fun _=>true) (by kernel_rfl) b;simp only[bL,al]at key;exact key
theorem VS (p:List UInt8):(IM N p).getLast?≠some 58:=by
 unfold IM;generalize (ES N p).1=d;rcases eJ d with rfl|⟨d,x,rfl⟩;·simp
 ·rw[eK];have h1:=(NI x).2;rw[dF,List.flatMap_singleton,dx];cases h:(NB x).getLast? with |none=>rw[List.getLast?_eq_none_iff]at h;rw[h]at h1;simp at h1|some y=>simp only[Option.some_or];rw[←h];exact APU x
theorem AN8: ∀(ps:List (List UInt8)) (f:Bool) (hne:ps≠ []),AFW (jn N f ps)=(IM N (ps.getLast hne)==[])
 |[],_,h=>absurd rfl h
 | [p],true,_=>by have:=VS (N:=N) p;simp only[jn,aI,eC,AFW];rw[show((IM N p).getLast?==some 58)=false by simpa using this,cW]
 | [p],false,_=>by have:=VS (N:=N) p;simp only[jn,aI,eC,AFW];cases hq:IM N p with |nil=>rfl| cons y ys=>rw[hq]at this;simp only[List.getLast?_cons_cons];rw[show((y::ys).getLast?==some 58)=false by simpa using this];rfl
 | p::q::ps,f,h=>by
  have ih:=AN8 (q::ps) false eU;rw[List.getLast_cons eU,←ih];obtain⟨z,zs,hz⟩: ∃z zs,jn N false (q::ps)=z::zs:=⟨58,IM N q++jn N false ps,rfl⟩;cases f;·rw[show jn N false (p::q::ps)=58::(IM N p++jn N false (q::ps))from rfl,hz];unfold AFW;simp[dx,List.getLast?_cons]
  ·rw[show jn N true (p::q::ps)=IM N p++jn N false (q::ps)from rfl,hz];unfold AFW;simp[dx,List.getLast?_cons]
end
end Go.VM
namespace Go.VM
section
variable{N:Nat}
theorem ALN{l:List (List UInt8)} (hne:l≠ []) (hb:l.length≤1000000):idx l (wr .i64 ((l.length:Int)-1))=some (l.getLast hne):=by have:0<l.length:=cl.2 hne;rw[show wr .i64 ((l.length:Int)-1)=((l.length-1:Nat):Int) by rw[AQ eT];omega,HV,←cS,cc hne]
theorem AOk{p:List UInt8} (hb:p.length≤16000) (hN:20000≤N) (hk:Qj N p=true):(IM N p==[])=(p==[]):=by
 unfold Qj at hk;rw[Rf hb hN]at hk;cases hu:unS p with
 |none=>rw[hu]at hk;exact absurd hk eV
 | some u=>
  have hn:=AVJ hu;unfold IM;rw[Rf hb hN,hu];cases u with
  |nil=>have:=hn.1 rfl;subst this;rfl
  | cons v u=>
   have hp:p≠ []:=fun e=>by have:=hn.2 e;cases this
   have h1:=(NI v.2).2;cases hq:NB v.2 with |nil=>rw[hq]at h1;simp at h1| cons y ys=>simp only[aK,bc,hq];cases p with |nil=>exact absurd rfl hp|cons _ _=>rfl
theorem AIK (s:List UInt8) (hb:s.length≤1000000) (hN:20000≤N):GA N s=some (Lu s):=by
 unfold GA Lu;by_cases h1:s.length>4096;·rw[ah eW,ah h1];rfl
 rw[ag eW,ag h1,Md,aa];cases hp:preB [100,105,100,58] s;·rfl
 have h4:=KV hp;simp only[ae,an]at h4;have hl:=FE 58 (s.drop 4);have hdl:(s.drop 4).length≤1000000:=by rw[aw];omega
 rw[aw]at hl;simp only[aE];rw[ag (by decide: ¬(true=false)),show sub s 4 (s.length:Int)=some (s.drop 4)from Bp (n:=4) eT,aa,AYQ 58 _ hdl,aa,AMZ,AIP];cases hc:(s.drop 4).contains 58;·rfl
 obtain⟨s1,s2⟩:=Sd hc hdl;simp only[bI,av,aR];rw[ag (by decide: ¬(true=false)),s1,aa,AQi _ eT,aa];cases hm:Ty (AP 58 (s.drop 4)).1;·rfl
 simp only[aE];rw[ag (by decide: ¬(true=false)),s2,aa,show(58:Int)=AC 58 from rfl,Nq _ 58 eT,aa];generalize (AP 58 (s.drop 4)).1=m at *;have hd:(AP 58 (s.drop 4)).2.1.length≤4096:=eT;generalize (AP 58 (s.drop 4)).2.1=d at *;have hsl:=Ih 58 d;have hsp:=Fp 58 d;have hne:=He 58 d;obtain⟨r1,r2⟩:=ASg (N:=N) hN d.length d (ao _) eT;dsimp only[AB];rw[BR eT,rd1 hN];unfold Pi;cases hu:unS d with
 | none=>rw[r1 hu];rfl
 | some us=>
  obtain⟨q1,q2,q3⟩:=r2 us hu;simp only;rw[q1,ah rfl,BR eT,rd2 hN _ _ 0 [] eT (fun p h=>by have:=hsp p h;omega) eW,q2];cases hk:us.all Ou;·rfl
  simp only[aE];rw[ag eV,ba];simp only[decide_true];rw[q3 hk,ALN hne eT,aa];have hlast:Qj N ((Al 58 d).getLast hne)=true:=br.1 q1 _ (ed hne);have hll:((Al 58 d).getLast hne).length≤16000:=by have:=hsp _ (ed hne);omega
  have he:=AN8 (N:=N) (Al 58 d) true hne;rw[q3 hk,AOk hll hN hlast]at he;rw[he];cases ((Al 58 d).getLast hne==[])<;>rfl
def Ii (d:ApiDID):List UInt8:=(([100,105,100,58]++d.method)++[58])++d.iD
theorem QS (d:ApiDID) (h:d.method.length≤1000000∧d.iD.length≤1000000):FP N d=some (Ii d):=by unfold FP Ii;rw[BR eW,BR eW,BR eW]
theorem QF (d:ApiDID) (h:d.method.length≤1000000∧d.iD.length≤1000000):EO N d=some (Ii d):=by unfold EO Ii;rw[BR eW,BR eW,BR eW]
theorem Sg (s:List UInt8):(Lu s).1.method.length≤4096∧(Lu s).1.iD.length≤12288:=by
 have hl:=FE 58 (s.drop 4);have hc:=ABE (AP 58 (s.drop 4)).2.1;rw[aw]at hl;unfold Lu;split;·simp[Mc]
 split;·simp[Mc]
 split;·simp[Mc]
 split;·simp[Mc]
 split;·simp[Mc]
 split;·simp[Mc]
 ·dsimp only;omega
end
end Go.VM
namespace Go.VM
section
variable{N:Nat}
def n3B (c:UInt8):Bool:=!([47,63,35]:List UInt8).contains c
theorem ARG{c:UInt8} (h:n3B c=true):c≠47∧c≠63∧c≠35:=by unfold n3B at h;simpa[and_assoc]using h
theorem ADK (c:UInt8) (t:List UInt8):AP c (c::t)=([],t,true):=by unfold AP;simp
theorem TI{c x:UInt8} (h:x≠c) (t:List UInt8):AP c (x::t)=(x::(AP c t).1,(AP c t).2):=by have:=Pj (c:=c) [x] t (by simpa using h);simpa using this
theorem AXO (s:List UInt8):AP 35 s=(s.takeWhile n3B++(AP 35 (s.dropWhile n3B)).1,(AP 35 (s.dropWhile n3B)).2)∧AP 63 (AP 35 s).1=(s.takeWhile n3B++(AP 63 (AP 35 (s.dropWhile n3B)).1).1,(AP 63 (AP 35 (s.dropWhile n3B)).1).2):=by
 have hA: ∀x,x∈s.takeWhile n3B→n3B x=true:=fun x AO=>Zd AO;have e1:AP 35 s=(s.takeWhile n3B++(AP 35 (s.dropWhile n3B)).1,(AP 35 (s.dropWhile n3B)).2):=by
  conv=>lhs;rw[←aU (p:=n3B) (l:=s)]
  exact Pj _ _ fun x AO=>(ARG (hA x AO)).2.2
 refine⟨e1,?_⟩;rw[e1];exact Pj _ _ fun x AO=>(ARG (hA x AO)).2.1
theorem VY{p:UInt8→Bool}: ∀l:List UInt8,l.dropWhile p=[]∨∃c t,l.dropWhile p=c::t∧p c=false
 |[]=>.inl rfl
 | c::l=>by
  rw[bV];cases h:p c;·exact .inr ⟨c,l,rfl,h⟩
  ·exact VY l
theorem AJy (s:List UInt8):(AP 63 (AP 35 (s.dropWhile n3B)).1).1=[]∨∃t,(AP 63 (AP 35 (s.dropWhile n3B)).1).1=47::t:=by
 rcases VY (p:=n3B) s with h|⟨c,t,h,hc⟩;·rw[h];exact .inl rfl
 ·rw[h];have:c=47∨c=63∨c=35:=by unfold n3B at hc;simp only[dP,aX,dZ,cW,cj,bw]at hc;exact hc
  rcases this with rfl|rfl|rfl;·rw[TI eV,TI eV];exact .inr ⟨_,rfl⟩
  ·rw[TI eV,ADK];exact .inl rfl
  ·rw[ADK];exact .inl rfl
theorem AMY (s:List UInt8):(AP 63 (AP 35 s).1).1.takeWhile (· !=(47:UInt8))=s.takeWhile n3B∧(AP 63 (AP 35 s).1).1.dropWhile (· !=(47:UInt8))=(AP 63 (AP 35 (s.dropWhile n3B)).1).1:=by
 rw[(AXO s).2];have hA: ∀x,x∈s.takeWhile n3B→(x !=(47:UInt8))=true:=fun x AO=>by simpa using(ARG (Zd AO)).1
 dsimp only;generalize s.takeWhile n3B=A at *;rcases AJy s with h|⟨t,h⟩
 ·rw [h,aI];have: ∀l:List UInt8,(∀x,x∈l→(x !=(47:UInt8))=true)→l.takeWhile (· !=(47:UInt8))=l∧l.dropWhile (· !=(47:UInt8))=[]:=by intro l;induction l with |nil=>exact fun _=>⟨rfl,rfl⟩| cons c l ih=>intro hl;obtain⟨i1,i2⟩:=ih fun x AO=>hl x (by simp[AO]);rw[aP,bV,hl c eU];exact⟨by rw[ah rfl,i1],i2⟩
  exact this A hA
 ·rw[h];refine⟨Wq A hA eV,?_⟩;have e:=aU (p:=(· !=(47:UInt8))) (l:=A++47::t);rw[Wq A hA eV]at e;exact List.append_cancel_left e
def QU:ApiDIDURL:=⟨Mc,[],[],[],false,false⟩
def duS (N:Nat) (d p q f:List UInt8) (hq hf:Bool):ApiDIDURL×Int:=if((Lu d).2 !=0)=true then(QU,(Lu d).2) else if((Bj N p inP).2 !=0)=true then(QU,(Bj N p inP).2) else if((Bj N q inQ).2 !=0)=true then(QU,(Bj N q inQ).2) else if((Bj N f inQ).2 !=0)=true then(QU,(Bj N f inQ).2) else(⟨(Lu d).1,(Bj N p inP).1,(Bj N q inQ).1,(Bj N f inQ).1,hq,hf⟩,0)
def Rl (N:Nat) (s:List UInt8):ApiDIDURL×Int:=if s.length>4096 then(QU,5) else duS N (s.takeWhile n3B) (AP 63 (AP 35 (s.dropWhile n3B)).1).1 (AP 63 (AP 35 (s.dropWhile n3B)).1).2.1 (AP 35 (s.dropWhile n3B)).2.1 (AP 63 (AP 35 (s.dropWhile n3B)).1).2.2 (AP 35 (s.dropWhile n3B)).2.2
theorem AXv (l:List UInt8):(l.takeWhile fun c=>!([47,63,35]:List UInt8).contains c)=l.takeWhile n3B:=rfl
theorem AHr{p:UInt8→Bool} (l:List UInt8):(l.takeWhile p).length+(l.dropWhile p).length=l.length:=by have:=a7 List.length (aU (p:=p) (l:=l));rwa[aj]at this
theorem AWd{p:UInt8→Bool} (s:List UInt8):sub s 0 (((s.takeWhile p).length:Nat):Int)=some (s.takeWhile p):=by have:=AHr (p:=p) s;rw[show(0:Int)=((0:Nat):Int)from rfl,Cm _ 0 _ (bk _) eT,aT,bA,Fv]
theorem AEL (s:List UInt8) (hb:s.length≤1000000) (hN:20000≤N):Kg N s=some (Rl N s):=by
 have hc1:=FE 35 s;have hc2:=FE 63 (AP 35 s).1;unfold Kg Rl;by_cases h:s.length>4096;·rw[ah eW,ah h];rfl
 rw[ag eW,ag h,Kv 35 _ eT,aa,Kv 63 _ eT,aa];obtain⟨s1,s2⟩:=AMY s;have t:=AHr (p:=n3B) s;have e35:=a7 Prod.snd (AXO s).1;have e63:=a7 Prod.snd (AXO s).2;dsimp only at e35 e63;have c3:=FE 35 (s.dropWhile n3B);have c4:=FE 63 (AP 35 (s.dropWhile n3B)).1;refine(Bo (a:=(s.takeWhile n3B,(AP 63 (AP 35 (s.dropWhile n3B)).1).1)) fun k=>?_).trans ?_
 ·rw[show(47:Int)=AC 47 from rfl,I9,aa,IB];generalize hd:(AP 63 (AP 35 s).1).1=d at *;rw[←s1,←s2];cases hc:d.contains 47
  ·have e:=aU (p:=(· !=(47:UInt8))) (l:=d);rw[LD d hc]at e⊢;have:d.dropWhile (· !=(47:UInt8))=[]:=by simpa using e
   rw[this];rfl
  ·have hlt:=Je hc;simp only[aE];rw[ah eU,show(0:Int)=((0:Nat):Int)from rfl,Cm d 0 _ (bk _) eT,aa,Bp eT,aa,aT,bA,Fv,GQ]
 ·dsimp only;unfold duS;rw[e35,e63,AIF _ eT hN,aa];by_cases h1:((Lu (s.takeWhile n3B)).2 !=0)=true;·rw[ah h1,ah h1];rfl
  rw[ag h1,ag h1,Fu _ _ hN,aa];change (if((Bj N _ inP).2 !=0)=true then _ else _)=_;by_cases h2:((Bj N (AP 63 (AP 35 (s.dropWhile n3B)).1).1 inP).2 !=0)=true;·rw[ah h2,ah h2];rfl
  rw[ag h2,ag h2,Fu _ _ hN,aa];change (if((Bj N _ inQ).2 !=0)=true then _ else _)=_;by_cases h3:((Bj N (AP 63 (AP 35 (s.dropWhile n3B)).1).2.1 inQ).2 !=0)=true;·rw[ah h3,ah h3];rfl
  rw[ag h3,ag h3,Fu _ _ hN,aa];change (if((Bj N _ inQ).2 !=0)=true then _ else _)=_;by_cases h4:((Bj N (AP 35 (s.dropWhile n3B)).2.1 inQ).2 !=0)=true;·rw[ah h4,ah h4];rfl
  rw[ag h4,ag h4];rfl
theorem AAR (s:List UInt8) (hb:s.length≤1000000) (hN:20000≤N):Iq N s=some (Rl N s):=by
 unfold Iq Rl;by_cases h:s.length>4096;·rw[ah eW,ah h];rfl
 have t:=AHr (p:=n3B) s;rw[ag eW,ag h,I4 _ _ eV eT,aa,AXv,AWd s,aa,AIK _ eT hN,aa,Bp eT,GQ];have c3:=FE 35 (s.dropWhile n3B);have c4:=FE 63 (AP 35 (s.dropWhile n3B)).1;unfold duS;generalize s.dropWhile n3B=x at *;by_cases h1:((Lu (s.takeWhile n3B)).2 !=0)=true;·rw[ah h1,ah h1];rfl
 rw[ag h1,ag h1,aa];refine(Bo (a:=AP 35 x) fun k=>ATm 35 _ eT k).trans ?_;refine(Bo (a:=AP 63 (AP 35 x).1) fun k=>ATm 63 _ eT k).trans ?_;rw[Gg _ _ hN eV,aa];change (if((Bj N _ inP).2 !=0)=true then _ else _)=_;by_cases h2:((Bj N (AP 63 (AP 35 x).1).1 inP).2 !=0)=true;·rw[ah h2,ah h2];rfl
 rw[ag h2,ag h2,Gg _ _ hN eV,aa];change (if((Bj N _ inQ).2 !=0)=true then _ else _)=_;by_cases h3:((Bj N (AP 63 (AP 35 x).1).2.1 inQ).2 !=0)=true;·rw[ah h3,ah h3];rfl
 rw[ag h3,ag h3,Gg _ _ hN eV,aa];change (if((Bj N _ inQ).2 !=0)=true then _ else _)=_;by_cases h4:((Bj N (AP 35 x).2.1 inQ).2 !=0)=true;·rw[ah h4,ah h4];rfl
 rw[ag h4,ag h4];rfl
def ABk (u:ApiDIDURL):List UInt8:=(((Ii u.dID++u.path)++(if u.hasQuery=true then [63]++u.query else []))++(if u.hasFrag=true then [35]++u.fragment else []))
def duB (u:ApiDIDURL) (n:Nat):Prop:=u.dID.method.length≤n∧u.dID.iD.length≤n∧u.path.length≤n∧u.query.length≤n∧u.fragment.length≤n
theorem AUW (u:ApiDIDURL) (h:duB u 100000):LG N u=some (ABk u):=by
 obtain⟨h1,h2,h3,h4,h5⟩:=h;unfold LG ABk;rw[QS _ ⟨eT,eT⟩,aa];have l0:(Ii u.dID).length≤300000:=by unfold Ii;simp only[aj,ae,an];omega
 generalize Ii u.dID=A at *;rw[BR eT];generalize hC:(if u.hasQuery=true then [63]++u.query else [])=C;have lC:C.length≤1000001:=by rw[←hC];split<;>simp;omega
 refine(Bo (a:=(A++u.path)++C) fun k=>?_).trans ?_
 ·rw[←hC];split;·rw[BR eW,BR (by simp only[aj,ae,an];omega)]
  ·rw[aI]
 refine(Bo (a:=((A++u.path)++C)++(if u.hasFrag=true then [35]++u.fragment else [])) fun k=>?_).trans rfl;split;·rw[BR eW,BR (by simp only[aj,ae,an];omega)]
 ·rw[aI]
theorem ATy (u:ApiDIDURL) (h:duB u 100000):JL N u=some (ABk u):=by
 obtain⟨h1,h2,h3,h4,h5⟩:=h;unfold JL ABk;rw[QF _ ⟨eT,eT⟩,aa];have l0:(Ii u.dID).length≤300000:=by unfold Ii;simp only[aj,ae,an];omega
 generalize Ii u.dID=A at *;rw[BR eT];generalize hC:(if u.hasQuery=true then [63]++u.query else [])=C;have lC:C.length≤1000001:=by rw[←hC];split<;>simp;omega
 refine(Bo (a:=(A++u.path)++C) fun k=>?_).trans ?_
 ·rw[←hC];split;·rw[BR eW,BR (by simp only[aj,ae,an];omega)]
  ·rw[aI]
 refine(Bo (a:=((A++u.path)++C)++(if u.hasFrag=true then [35]++u.fragment else [])) fun k=>?_).trans rfl;split;·rw[BR eW,BR (by simp only[aj,ae,an];omega)]
 ·rw[aI]
def ATg:List UInt8→Bool |[]=>true|c::_=>([47,63,35]:List UInt8).contains c
def Q7 (N:Nat) (d:ApiDID) (r:List UInt8):ApiDIDURL×Int:=if preB [100,105,100,58] r=true then Rl N r else if ATg r=true then Rl N (Ii d++r) else(QU,6)
theorem AM7 (d:ApiDID) (r:List UInt8) (hd:d.method.length≤100000∧d.iD.length≤100000) (hr:r.length≤100000) (hN:20000≤N):KA N d r=some (Q7 N d r):=by
 unfold KA Q7;rw[Nr,aa];by_cases h:preB [100,105,100,58] r=true;·rw[ah h,ah h,AEL _ eT hN];rfl
 rw[ag h,ag h];have l0:(Ii d).length≤300000:=by unfold Ii;simp only[aj,ae,an];omega
 refine(Bo (a:=ATg r) fun k=>?_).trans ?_;·cases r with |nil=>rfl| cons c t=>rw[ag eU,show idx (c::t) 0=some c from rfl,aa,I9,aa,G9];rfl
 ·split;·rw[QS _ ⟨eT,eT⟩,aa,BR eT,AEL _ (by rw[aj];omega) hN];rfl
  ·rfl
theorem APq (d:ApiDID) (r:List UInt8) (hd:d.method.length≤100000∧d.iD.length≤100000) (hr:r.length≤100000) (hN:20000≤N):IU N d r=some (Q7 N d r):=by
 unfold IU Q7;rw[Md,aa];by_cases h:preB [100,105,100,58] r=true;·rw[ah h,ah h,AAR _ eT hN];rfl
 rw[ag h,ag h];have l0:(Ii d).length≤300000:=by unfold Ii;simp only[aj,ae,an];omega
 refine(Bo (a:=!ATg r) fun k=>?_).trans ?_;·cases r with |nil=>rfl| cons c t=>rw[ag eU,show idx (c::t) 0=some c from rfl,aa,TF _ _ eV,aa];rfl
 ·cases ATg r;·rfl
  ·rw[ag eV,ah rfl,QF _ ⟨eT,eT⟩,aa,BR eT,AAR _ (by rw[aj];omega) hN];rfl
theorem AHK (s:List UInt8):duB (Rl N s).1 12288:=by
 have z:duB QU 12288:=by unfold duB QU Mc;simp
 unfold Rl;split;·exact z
 have t:=AHr (p:=n3B) s;have c3:=FE 35 (s.dropWhile n3B);have c4:=FE 63 (AP 35 (s.dropWhile n3B)).1;have l1:=Sg (s.takeWhile n3B);have n1:=F7 (N:=N) (AP 63 (AP 35 (s.dropWhile n3B)).1).1 inP;have n2:=F7 (N:=N) (AP 63 (AP 35 (s.dropWhile n3B)).1).2.1 inQ;have n3:=F7 (N:=N) (AP 35 (s.dropWhile n3B)).2.1 inQ;unfold duS;split;·exact z
 split;·exact z
 split;·exact z
 split;·exact z
 unfold duB;dsimp only;omega
theorem VF (d:ApiDID) (r:List UInt8):duB (Q7 N d r).1 12288:=by
 unfold Q7;split;·exact AHK _
 split;·exact AHK _
 ·unfold duB QU Mc;simp
end
end Go.VM
