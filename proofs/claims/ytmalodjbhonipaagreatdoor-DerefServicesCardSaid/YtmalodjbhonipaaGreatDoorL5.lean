import Derived.Test.YtmalodjbhonipaaGreatDoorL4
import Derived.Test.YtmalodjbhonipaaGreatDoorDefs
set_option linter.unusedVariables false
set_option linter.unusedSimpArgs false
namespace Go.VM
section
variable{N:Nat}
theorem AIE (a:Int) (k2:Unit→Option Bool) (h:k2 ()=some false): ∀l:List UInt8,EP N a k2 l=some (l.any fun c=>AC c==a) |[]=>by rw[EP];simpa using h| x::l=>by rw[EP,AIE a k2 h l,b9];cases AC x==a<;>rfl
theorem Vh (a:Int) (l:List UInt8) (h:l.length≤1000):Ew N a l=some (l.any fun c=>AC c==a):=by unfold Ew;rw[AB,BR eT];exact AIE a _ rfl l
theorem digit_eq (a:Int):BN N a=some (decide (a≥48)&&decide (a≤57)):=by unfold BN;by_cases h:a≥48<;>simp[h]
def AXa (c:UInt8):Bool:=decide (AC c≥48)&&decide (AC c≤57)
def runN (l:List UInt8):Nat:=(l.takeWhile AXa).length
theorem ARs (l:List UInt8):runN l≤l.length:=(eA _).length_le
theorem ABf (l:List UInt8) (k2:Int→Option Int) (hb:l.length≤1000000): ∀(suf pre:List UInt8) (k:Nat),l=pre++suf→suf.length<k→FH N l k2 k (pre.length:Int)=k2 ((pre.length+runN suf:Nat):Int)
 | [],pre,k+1,h,_=>by
  rw[FH,AB];have:decide ((pre.length:Int)<(l.length:Int))=false:=by rw[h];simp
  rw[this];simp[runN]
 | x::suf,pre,k+1,h,hk=>by
  simp only[ae]at hk;have hl:pre.length<l.length:=by rw[h];simp
  rw[FH,AB,AQu h,ah rfl,AGD h,aa,digit_eq,aa];cases hd:AXa x;·have:(decide (AC x≥48)&&decide (AC x≤57))=false:=hd;rw[this];simp[runN,hd]
  ·have:(decide (AC x≥48)&&decide (AC x≤57))=true:=hd;rw[this];simp only[aE];rw[AQ eT,NR pre x,ABf l k2 hb suf (pre++[x]) k (by rw[h];simp) eT];simp only[runN,aP,hd,aE,ae,aj,an];congr 2;omega
theorem AVg (l:List UInt8) (hN:l.length<N) (hb:l.length≤1000000):Ip N l=some (runN l:Int):=by unfold Ip;rw[AB];have:=ABf (N:=N) l (fun j=>some j) hb l [] N rfl hN;simpa using this
theorem XB (l:List UInt8) (i:Int) (h:0≤i):Ok (IZ N l i) (fun x=>x=l.drop i.toNat):=by
 unfold IZ;refine Ok.ite (fun hc=>Ok.ret ?_) (fun hc=>Ok.bind (Ok.sub h (by simp at hc;omega) (be _)) fun x hx=>Ok.ret ?_);·simp only[al]at hc;rw[cJ eT]
 ·rw[hx.1,aM eU]
theorem AGh (l:List UInt8) (hN:l.length<N) (hb:l.length≤1000000):Ok (Ip N l) (fun n=>n=(runN l:Int)∧0≤n∧n≤l.length):=by refine⟨_,AVg l hN hb,rfl,eT,?_⟩;have:=ARs l;omega
theorem TV (l:List UInt8) (hN:l.length<N) (hb:l.length≤1000000):Ok (Ga N l) (fun n=>0≤n∧n≤l.length):=by
 unfold Ga;have dl: ∀i:Nat,(l.drop i).length≤l.length:=fun i=>by simp
 refine Ok.meet (fun j1:Int=>0≤j1∧j1≤1∧j1≤l.length) (fun j1 h1=>?_) (fun k2 h2=>?_)
 ·refine Ok.meet (fun j10:Bool=>j10=false→j1<l.length) (fun j10 h10=>?_) (fun k11 h11=>?_)
  ·refine Ok.ite (fun _=>Ok.ret eT) (fun hf=>?_);have hj:=h10 hf;refine Ok.meet (fun j17:Int=>0≤j17∧j17≤l.length) (fun j17 h17=>?_) (fun k18 h18=>?_)
   ·refine Ok.meet (fun j25:Int=>0≤j25∧j25≤l.length) (fun j25 h25=>?_) (fun k26 h26=>?_)
    ·refine Ok.meet (fun j38:Int=>0≤j38∧j38≤l.length) (fun j38 h38=>Ok.ret h38) (fun k39 h39=>?_);refine Ok.meet (fun j42:Bool=>j42=true→j25<l.length) (fun j42 h42=>?_) (fun k43 h43=>?_)
     ·refine Ok.ite (fun ht=>?_) (fun _=>h39 _ h25);have hlt:=h42 ht;refine Ok.meet (fun j49:Int=>0≤j49∧j49≤l.length) (fun j49 h49=>?_) (fun k50 h50=>?_)
      ·refine Ok.bind (XB l j49 h49.1) fun y60 h60=>?_;have hl:y60.length=l.length-j49.toNat:=by rw[h60];simp
       refine Ok.bind (AGh y60 eT eT) fun y62 h62=>?_;refine Ok.ite (fun _=>h39 _ ?_) (fun _=>h39 _ h25);rw[AQ eT];omega
      ·refine Ok.meet (fun j53:Bool=>j53=true→j25+1<l.length) (fun j53 h53=>?_) (fun k54 h54=>?_);·rw[AQ (n:=j25+1) eT,AQ (n:=j25+1+1) eT];exact Ok.ite (fun ht=>h50 _ (by have:=h53 ht;omega)) (fun _=>h50 _ eT)
       ·rw[AQ (n:=j25+1) eT];refine Ok.ite (fun hc=>?_) (fun _=>h54 _ eU);simp only[al]at hc;refine Ok.bind (Ok.idx eT hc) fun x57 _=>?_;rw[Vh _ _ eU,aa];exact h54 _ (fun _=>hc)
     ·refine Ok.ite (fun hc=>?_) (fun _=>h43 _ eU);simp only[al]at hc;refine Ok.bind (Ok.idx h25.1 hc) fun x46 _=>?_;rw[Vh _ _ eU,aa];exact h43 _ (fun _=>hc)
    ·rw[AQ (n:=j17+1) eT];refine Ok.bind (XB l (j17+1) eT) fun y29 h29=>?_;have hl:y29.length=l.length-(j17+1).toNat:=by rw[h29];simp
     refine Ok.bind (AGh y29 eT eT) fun y31 h31=>?_;refine Ok.meet (fun j33:Bool=>j33=true→j17<l.length) (fun j33 h33=>?_) (fun k34 h34=>?_);·rw[AQ (n:=1+y31) eT,AQ (n:=j17+(1+y31)) eT];refine Ok.ite (fun ht=>h26 _ ?_) (fun _=>h26 _ h17);have:=h33 ht;omega
     ·refine Ok.ite (fun hc=>?_) (fun _=>h34 _ eU);simp only[al]at hc;refine Ok.bind (Ok.idx h17.1 hc) fun x37 _=>?_;exact Ok.ite (fun _=>h34 _ (fun _=>hc)) (fun _=>h34 _ eU)
   ·refine Ok.bind (Ok.idx h1.1 hj) fun x21 _=>?_;refine Ok.ite (fun _=>?_) (fun _=>?_);·rw[AQ (n:=j1+1) eT];exact h18 _ eT
    ·refine Ok.bind (Ok.sub h1.1 h1.2.2 (be _)) fun x22 h22=>?_;have hl:=h22.2;refine Ok.bind (AGh x22 eT eT) fun y23 h23=>?_;rw[AQ (n:=j1+y23) eT];exact h18 _ eT
  ·refine Ok.ite (fun _=>h11 _ eU) (fun hc=>?_);have hj:j1<l.length:=by
    have:j1≠l.length:=by simpa using hc
    omega
   refine Ok.bind (Ok.idx h1.1 hj) fun x14 _=>?_;rw[digit_eq,aa];exact h11 _ (fun _=>hj)
 ·refine Ok.meet (fun j5:Bool=>j5=true→0<l.length) (fun j5 h5=>?_) (fun k6 h6=>?_);·refine Ok.ite (fun ht=>h2 _ ?_) (fun _=>h2 _ eT);have:=h5 ht;rw[AQ eT];omega
  ·refine Ok.ite (fun hc=>?_) (fun _=>h6 _ eU);simp only[al]at hc;exact Ok.bind (Ok.idx eT hc) fun x9 _=>h6 _ (fun _=>by omega)
theorem Tg (set:List UInt8) (hs:set.length≤1000) (k2:Unit→Option Int) (n:Int) (h:k2 ()=some n): ∀(l:List UInt8) (i:Int),0≤i→i+l.length=n→Ok (Ca N set k2 l i) (fun r=>0≤r∧r≤n) |[],i,hi,hn=>by rw[Ca,h];exact Ok.ret (by simp at hn;omega)| x::l,i,hi,hn=>by simp only[ae]at hn;rw[Ca,Vh _ _ hs,aa];exact Ok.ite (fun _=>Ok.ret eT) (fun _=>Tg set hs k2 n h l (i+1) eT eT)
theorem ACK (l set:List UInt8) (hs:set.length≤1000) (hb:l.length≤1000000):Ok (Aw N l set) (fun r=>0≤r∧r≤l.length):=by unfold Aw;refine Ok.join (Ok.grd (by unfold AL;omega) ?_);exact Tg set hs _ _ rfl l 0 eT eT
theorem ACQ (k19:Int→Option Int) (hk: ∀n,0≤n→n≤1073741824→Ok (k19 n) (fun r=> -1073741824≤r∧r≤1073741824)): ∀(l:List UInt8) (n:Int),0≤n→n≤1073741824→Ok (Ck N k19 l n) (fun r=> -1073741824≤r∧r≤1073741824)
 |[],n,h0,h1=>by rw[Ck];exact hk n h0 h1
 | x::l,n,h0,h1=>by
  rw[Ck];have hw:0≤wr .u8 (AC x-48)∧wr .u8 (AC x-48)≤255:=by simp only[wr,IntKind.wrap,IntKind.bits,IntKind.signed];simp;omega
  rw[AQ (n:=n * 10) eT,AQ (n:=wr .u8 (AC x-48)) eT,AQ (n:=n * 10+wr .u8 (AC x-48)) eT];refine ACQ k19 hk l _ ?_ ?_;·split<;>omega
  ·split<;>omega
theorem ACv (l:List UInt8) (hb:l.length≤1000000):Ok (Gs N l) (fun r=> -1073741824≤r∧r≤1073741824):=by
 unfold Gs;have pos: ¬(l==[])=true→(0:Int)<l.length:=fun h=>by
  have:l≠ []:=by simpa using h
  have:=cl.2 this;omega
 refine Ok.meet (fun _:Bool=>True) (fun j1 _=>?_) (fun k2 h2=>?_)
 ·refine Ok.meet (fun j6:List UInt8=>j6.length≤l.length) (fun j6 h6=>?_) (fun k7 h7=>?_);·refine Ok.join (Ok.grd (by unfold AL;omega) (ACQ _ (fun n h0 h1=>?_) _ _ eT eT));refine Ok.ite (fun _=>Ok.ret ?_) (fun _=>Ok.ret ⟨eT,eT⟩);rw[AQ eT];omega
  ·refine Ok.meet (fun j10:Bool=>j10=true→(0:Int)<l.length) (fun j10 h10=>?_) (fun k11 h11=>?_);·refine Ok.ite (fun ht=>?_) (fun _=>h7 _ (ao _));have:=h10 ht;exact Ok.bind (Ok.sub eT eT (be _)) fun x hx=>h7 _ (by have:=hx.2;omega)
   ·refine Ok.ite (fun _=>h11 _ eU) (fun hf=>?_);have:=pos (by simp[hf]);refine Ok.bind (Ok.idx eT this) fun x _=>?_;rw[Vh _ _ eU,aa];exact h11 _ (fun _=>this)
 ·refine Ok.ite (fun _=>h2 _ trivial) (fun hf=>?_);exact Ok.bind (Ok.idx eT (pos (by simp[hf]))) fun x _=>h2 _ trivial
theorem Rc: ∀(d k n:Nat) (acc:List UInt8),n<10^(d+1)→d<k→n<18446744073709551616→acc.length+d≤1000→Ok (Cw N k (n:Int) acc) (fun r=>r.length≤acc.length+d+1)
 |d,0,n,acc,h,hk,hn,ha=>by omega
 | d,k+1,n,acc,h,hk,hn,ha=>by
  have hd:wr .u64 ((n:Int).tdiv 10)=((n / 10:Nat):Int):=by rw[co eT];simp only[wr,IntKind.wrap,IntKind.bits,IntKind.signed];simp;omega
  rw[Cw,hd];refine Ok.grd (by unfold AL;simp<;>omega) (Ok.ite (fun _=>Ok.ret (by simp<;>omega)) (fun hc=>?_));have hc':n / 10≠0:=by
   have:((n / 10:Nat):Int)≠0:=by simpa using hc
   omega
  cases d with
  |zero=>simp at h;omega
  | succ d=>
   refine(Rc d k (n / 10) _ ?_ eT eT eW).mono fun r hr=>by simp at hr;omega
   rw[eR]at h;omega
theorem Vp (n:Nat) (h1:n<1000000000000) (hN:20≤N):Ok (En N n) (fun r=>r.length≤13):=by unfold En;exact(Rc 11 N n [] (by simpa using h1) eT eT eU).mono fun r hr=>by simp at hr;omega
theorem U0 (k40:Int×List UInt8→Option (List UInt8×Int)) (P:List UInt8×Int→Prop) (L:Nat) (hL:L≤1000000) (hk: ∀(x:Int) (m:List UInt8),-2000000000≤x→x≤2000000000→m.length≤L→Ok (k40 (x,m)) P): ∀(k:Nat) (x:Int) (m:List UInt8),m.length<k→m.length≤L→ -2000000000≤x→x+m.length≤2000000000→(∃c,m.head?=some c∧c≠48)→Ok (EL N k40 k x m) P
 |0,x,m,h,_,_,_,_=>by omega
 | k+1,x,m,h,hm,h0,h1,hc=>by
  obtain⟨c,hc,hne⟩:=hc;have hpos:0<m.length:=by cases m with |nil=>simp at hc|cons=>simp
  rw[EL,AQ (n:=(m.length:Int)-1) eT];refine Ok.bind (Ok.idx eT eT) fun y hy=>?_;refine Ok.ite (fun ht=>?_) (fun _=>hk x m eT eT hm);refine Ok.bind (Ok.sub eT eT eT) fun z hz=>?_;rw[AQ (n:=x+1) eT];have hl:=hz.2;have h2:1<m.length:=by
   rcases aS 1 m.length with h|h;·exact h
   ·exfalso;match m,hpos,h,hc,hy with
    | [d],_,_,hc,hy=>
     simp at hc hy;subst hc;subst hy;have:AC d=48:=by simpa using ht
     exact hne (by
      have h3:d.toNat=48:=by unfold AC at this;omega
      exact dC.1 (by rw[h3];rfl))
  refine U0 k40 P L hL hk k (x+1) z eT eT eT eT ⟨c,?_,hne⟩;rw[hz.1];cases m with |nil=>simp at hpos| cons a m=>simp at hc;subst hc;have e:((((a::m).length:Nat):Int)-1).toNat-(0:Int).toNat=m.length:=eU;rw[e];cases m with |nil=>simp at h2|cons b m=>simp
theorem TC (k29:List UInt8→Option (List UInt8×Int)) (B:Nat) (P:List UInt8×Int→Prop) (hk: ∀m:List UInt8,m.length≤B→(m=[]∨∃c,m.head?=some c∧c≠48)→Ok (k29 m) P): ∀(k:Nat) (m:List UInt8),m.length<k→m.length≤B→Ok (EQ N k29 k m) P
 |0,m,h,_=>by omega
 | k+1,m,h,hb=>by
  rw[EQ,AB];cases m with
  | nil=>have:decide ((([]:List UInt8).length:Int)>0)=false:=eU;rw[this];simpa using hk [] eU (.inl rfl)
  | cons a m=>
   simp only[ae]at h hb;have h1:decide (((a::m).length:Int)>0)=true:=by simp<;>omega
   have h2:idx (a::m) 0=some a:=by simp[idx]
   rw[h1,ah rfl,h2,aa];refine Ok.ite (fun ht=>?_) (fun hf=>hk _ (by simpa using hb) (.inr ⟨a,rfl,fun e=>?_⟩));·exact Ok.bind (Ok.sub eT eW (be _)) fun x hx=>TC k29 B P hk k x (by have:=hx.2;simp at this;omega) (by have:=hx.2;simp at this;omega)
   ·subst e;simp[AC]at hf
theorem AJ2 (l:List UInt8) (hN:l.length+30<N) (hb:l.length≤100000):Ok (JG N l) (fun r=>r.1.length≤2 * l.length+100):=by
 unfold JG;refine Ok.meet (fun j1:Bool=>j1=false→0<l.length) (fun j1 h1=>?_) (fun k2 h2=>?_)
 ·refine Ok.ite (fun _=>Ok.ret eU) (fun hf=>?_);have hpos:=h1 hf;refine Ok.meet (fun j:List UInt8×List UInt8=>j.1.length≤l.length∧j.2.length≤1) (fun j hj=>?_) (fun k8 h8=>?_)
  ·refine Ok.bind (ACK j.1 _ eU eT) fun y13 h13=>?_;rw[AQ (n:=y13+1) eT];refine Ok.bind (XB j.1 (y13+1) eT) fun y15 h15=>?_;have hl15:y15.length≤j.1.length:=by rw[h15];simp
   refine Ok.bind (ACv y15 eT) fun y17 h17=>?_;refine Ok.bind (Ok.sub eT h13.1 h13.2) fun x19 h19=>?_;have hl19:=h19.2;refine Ok.meet (fun j20:Int×List UInt8=> -1100000000≤j20.1∧j20.1≤1100000000∧j20.2.length≤l.length) (fun j20 hj20=>?_) (fun k21 h21=>?_)
   ·refine Ok.meet (fun m:List UInt8=>m.length≤l.length∧(m=[]∨∃c,m.head?=some c∧c≠48)) (fun m hm=>?_) (fun k29 h29=>?_)
    ·refine Ok.ite (fun _=>Ok.ret eU) (fun hne=>?_);refine Ok.meet (fun p:Int×List UInt8=>p.2.length≤l.length) (fun p hp=>?_) (fun k40 h40=>?_)
     ·refine Ok.meet (fun b:Bool=>b=false→ -400≤p.1∧p.1≤400) (fun b hb'=>?_) (fun k47 h47=>?_)
      ·refine Ok.ite (fun _=>Ok.ret eU) (fun hf=>?_);have hx:=hb' hf;refine Ok.ite (fun hlt=>?_) (fun _=>Ok.ite (fun hgt=>?_) (fun _=>Ok.grd (by unfold AL;omega) (Ok.ret (by simp<;>omega))))
       ·simp only[al]at hlt;obtain⟨n,hn⟩: ∃n:Nat,0-p.1=n:=⟨(0-p.1).toNat,eT⟩;have e:wr .u64 (wr .i64 (0-p.1))=(n:Int):=by rw[AQ eT,hn];simp only[wr,IntKind.wrap,IntKind.bits,IntKind.signed];simp;omega
        rw[e];refine Ok.grd (by unfold AL;omega) (Ok.grd (by unfold AL;simp<;>omega) (Ok.bind (Vp n eT eT) fun y hy=>Ok.grd (by unfold AL;simp<;>omega) (Ok.ret (by simp<;>omega))))
       ·simp only[al]at hgt;obtain⟨n,hn⟩: ∃n:Nat,p.1=n:=⟨p.1.toNat,eT⟩;have e:wr .u64 p.1=(n:Int):=by rw[hn];simp only[wr,IntKind.wrap,IntKind.bits,IntKind.signed];simp;omega
        rw[e];refine Ok.grd (by unfold AL;omega) (Ok.grd (by unfold AL;simp<;>omega) (Ok.bind (Vp n eT eT) fun y hy=>Ok.grd (by unfold AL;simp<;>omega) (Ok.ret (by simp<;>omega))))
      ·refine Ok.ite (fun _=>h47 _ eU) (fun _=>Ok.ite (fun _=>h47 _ eU) (fun h4=>h47 _ (fun h5=>?_)));simp only[bP]at h4 h5;omega
     ·rcases hm.2 with hm2|hm2;·rw[hm2]at hne;simp at hne
      ·exact U0 k40 _ l.length eT (fun x m' _ _ h=>h40 _ h) N j20.1 m eT hm.1 eT eT hm2
    ·exact TC k29 l.length _ (fun m hm hc=>h29 _ ⟨hm,hc⟩) N j20.2 eT hj20.2.2
   ·refine Ok.bind (ACK x19 _ eU eT) fun y24 h24=>?_;refine Ok.ite (fun hc=>?_) (fun _=>h21 _ ⟨eT,eT,by simp only[];omega⟩);simp only[al]at hc;refine Ok.bind (Ok.sub eT h24.1 h24.2) fun x26 h26=>?_;rw[AQ (n:=y24+1) eT,AQ (n:=(x19.length:Int)-y24) eT,AQ (n:=(x19.length:Int)-y24-1) eT,AQ (n:=y17-((x19.length:Int)-y24-1)) eT];refine Ok.bind (Ok.sub eT eT (be _)) fun x27 h27=>?_;have a1:=h26.2;have a2:=h27.2;exact Ok.grd (by unfold AL;omega) (h21 _ ⟨by simp only[];omega,by simp only[];omega,eW⟩)
  ·refine Ok.bind (Ok.idx eT eT) fun x11 _=>?_;refine Ok.ite (fun _=>?_) (fun _=>h8 _ ⟨ao _,eU⟩);exact Ok.bind (Ok.sub eT eT (be _)) fun x12 h12=>h8 _ ⟨by have:=h12.2;simp only[];omega,eU⟩
 ·refine Ok.ite (fun _=>h2 _ eU) (fun hf=>?_);have hpos:0<l.length:=by
   have:l≠ []:=by simpa using hf
   exact cl.2 this
  exact Ok.bind (TV l eT eT) fun y _=>h2 _ (fun _=>hpos)
end
end Go.VM
namespace Go.VM
section
variable{N:Nat}
theorem AS4 (a:Int):Ok (FL N a) (fun _=>True):=by unfold FL;rw[digit_eq,aa];refine Ok.ite (fun _=>Ok.ret trivial) (fun _=>?_);refine Ok.ite (fun _=>Ok.ite (fun _=>Ok.ret trivial) (fun _=>?_)) (fun _=>?_)<;>exact Ok.ite (fun _=>Ok.ret trivial) (fun _=>Ok.ret trivial)
theorem Uv (k2:Unit→Option (Int×Int)) (h:Ok (k2 ()) (fun _=>True)): ∀l:List UInt8,Ok (CV N 16 k2 l) (fun _=>True) |[]=>by rw[CV];exact h| x::l=>by rw[CV];refine Ok.meet (fun _:Bool=>True) (fun j _=>Ok.ite (fun _=>Ok.ret trivial) (fun _=>Uv k2 h l)) (fun k7 h7=>?_);refine Ok.ite (fun hc=>by simp at hc) (fun _=>Ok.ite (fun _=>Ok.bind (AS4 _) fun y _=>h7 _ trivial) (fun _=>h7 _ trivial))
theorem Va (k17:Int→Option (Int×Int)) (h: ∀n,Ok (k17 n) (fun _=>True)) (m:Int): ∀(l:List UInt8) (n:Int),Ok (CU N 16 m k17 l n) (fun _=>True) |[],n=>by rw[CU];exact h n| x::l,n=>by rw[CU];refine Ok.meet (fun _:Int=>True) (fun j _=>?_) (fun k22 h22=>Ok.ite (fun _=>h22 _ trivial) (fun _=>h22 _ trivial));refine Ok.meet (fun _:Bool=>True) (fun b _=>Ok.ite (fun _=>Ok.ret trivial) (fun _=>Va k17 h m l _)) (fun k26 h26=>?_);exact Ok.grd eV (Ok.ite (fun _=>h26 _ trivial) (fun _=>Ok.ite (fun _=>h26 _ trivial) (fun _=>h26 _ trivial)))
theorem AWD (l:List UInt8) (m:Int) (hb:l.length≤1000):Ok (MM N l m) (fun _=>True):=by unfold MM Gz;refine Ok.bind (Q:=fun _=>True) (Ok.ite (fun _=>Ok.ret trivial) (fun _=>Ok.join (Ok.grd (by unfold AL;omega) (Uv _ (Ok.join (Ok.grd (by unfold AL;omega) (Va _ (fun n=>Ok.ret trivial) m l 0))) l)))) fun y _=>Ok.ret trivial
theorem AHS (l:List UInt8) (i:Int) (h0:0≤i) (h1:i≤2000000) (hb:l.length≤1000000):Ok (Jv N l i) (fun r=>r.2=true→i+6≤l.length):=by
 unfold Jv;refine Ok.meet (fun j:Bool=>j=false→i+6≤l.length) (fun j hj=>?_) (fun k2 h2=>?_);·refine Ok.ite (fun _=>Ok.ret eU) (fun hf=>?_);have:=hj hf;rw[AQ (n:=i+2) eT,AQ (n:=i+6) eT];exact Ok.bind (Ok.sub eT eT eT) fun x hx=>Ok.bind (AWD x _ (by have:=hx.2;omega)) fun y _=>Ok.ret (fun _=>this)
 ·rw[AQ (n:=i+6) eT,AQ (n:=i+1) eT];refine Ok.ite (fun _=>h2 _ eU) (fun hc=>?_);simp only[bP]at hc;refine Ok.bind (Ok.idx h0 eT) fun x _=>Ok.ite (fun _=>h2 _ (fun _=>by omega)) (fun _=>?_);exact Ok.bind (Ok.idx eT eT) fun x _=>h2 _ (fun _=>by omega)
theorem QY (n:Int):Ok (GU N n) (fun r=>r.1.length≤4):=by
 unfold GU;refine Ok.bind (Q:=fun _=>True) ?_ fun y _=>?_;·unfold Ll;refine Ok.ite (fun _=>Ok.ite (fun _=>Ok.ite (fun _=>Ok.ret trivial) (fun _=>Ok.ret trivial)) (fun _=>Ok.ret trivial)) (fun _=>Ok.ret trivial)
 ·refine Ok.ite (fun _=>Ok.ite (fun _=>Ok.ret eU) (fun _=>Ok.ite (fun _=>Ok.letL (Ok.ret eU)) (fun _=>Ok.ite (fun _=>Ok.letL (Ok.ret eU)) (fun _=>Ok.letL (Ok.ret eU))))) (fun _=>Ok.ret eU)
theorem AOU: ∀j:Nat,j<8→(CR [34,92,47,98,102,110,114,116] j).2=1:=by intro j h;match j,h with |0,_=>rfl|1,_=>rfl|2,_=>rfl|3,_=>rfl|4,_=>rfl|5,_=>rfl|6,_=>rfl|7,_=>rfl
theorem Ri (l:List UInt8) (i:Int) (h0:0≤i) (h1:i+1<l.length) (hb:l.length≤1000000) (P:List UInt8×Int×Int→Prop) (hP: ∀x:List UInt8,x.length≤4→P (x,i+2,0)) (k2:Unit→Option (List UInt8×Int×Int)) (hk:Ok (k2 ()) P):∀(k j:Nat),j≤8→8<k+j→Ok (EN N l i k2 k j) P |0,j,hj,h=>by omega| k+1,j,hj,h=>by rw[EN];refine Ok.ite (fun hc=>?_) (fun _=>hk);simp only[al]at hc;rw[AOU j hc,AQ (n:=i+1) eT,AQ (n:=(j:Int)+1) eT,AQ (n:=i+2) eT];refine Ok.bind (Ok.idx eT eW) fun x _=>Ok.bind (Ok.idx eT h1) fun y _=>?_;refine Ok.ite (fun _=>?_) (fun _=>Ri l i h0 h1 hb P hP k2 hk k (j+1) eT eT);exact Ok.bind (Ok.sub eT eT eW) fun z hz=>Ok.ret (hP z (by have:=hz.2;omega))
theorem AIy (l:List UInt8) (i:Int) (h0:0≤i) (h1:i<l.length) (hb:l.length≤1000000) (hN:10≤N):Ok (JQ N l i) (fun r=>r.2.2=0→r.1.length≤4∧i<r.2.1∧r.2.1≤l.length):=by
 unfold JQ;refine Ok.meet (fun _:Unit=>True) (fun _ _=>?_) (fun k2 h2=>?_)
 ·refine Ok.bind (AHS l i h0 eT hb) fun y9 h9=>Ok.ite (fun ht=>?_) (fun _=>Ok.ret eU);have h6:=h9 ht;rw[AQ (n:=i+6) eT,AQ (n:=i+12) eT];refine Ok.meet (fun _:Bool=>True) (fun j _=>Ok.ite (fun _=>Ok.bind (QY _) fun y h=>Ok.ret (fun _=>⟨h,by simp only[];omega,by simp only[];omega⟩)) (fun _=>?_)) (fun k12 h12=>Ok.ite (fun _=>h12 _ trivial) (fun _=>h12 _ trivial));refine Ok.bind (AHS l (i+6) eT eT hb) fun y17 h17=>?_;refine Ok.meet (fun j:Bool=>j=false→y17.2=true) (fun j hj=>Ok.ite (fun _=>Ok.ret eU) (fun hf=>?_)) (fun k20 h20=>?_);·have:=h17 (hj hf);exact Ok.bind (QY _) fun y h=>Ok.ret (fun _=>⟨h,by simp only[];omega,by simp only[];omega⟩)
  ·refine Ok.ite (fun _=>h20 _ eU) (fun _=>Ok.ite (fun h=>Ok.ite (fun _=>h20 _ eU) (fun _=>h20 _ (fun _=>h))) (fun _=>h20 _ eU))
 ·rw[AQ (n:=i+1) eT];refine Ok.ite (fun hc=>?_) (fun _=>h2 _ trivial);simp only[al]at hc;exact Ri l i h0 hc hb _ (fun x hx=>fun _=>⟨hx,by simp only[];omega,by simp only[];omega⟩) k2 (h2 _ trivial) N 0 eT eT
theorem UG (l:List UInt8) (k4:Int→Option Int) (h: ∀n,Ok (k4 n) (fun _=>True)): ∀(k:Nat) (i n:Int),0≤i→i+k≤l.length→Ok (EI N l k4 k i n) (fun _=>True) |0,i,n,_,_=>by rw[EI];exact h n| k+1,i,n,h0,h1=>by rw[EI];exact Ok.bind (Ok.idx h0 eT) fun x _=>UG l k4 h k (i+1) _ eT eT
theorem AMv (l:List UInt8) (h0:0<l.length) (h1:l.length≤4):Ok (KE N l) (fun _=>True):=by unfold KE;refine Ok.ite (fun _=>Ok.bind (Ok.idx eT eT) fun x _=>Ok.ret trivial) (fun _=>?_);refine Ok.bind (Ok.idx eT eT) fun x _=>?_;rw[AQ (n:=7-(l.length:Int)) eT];exact Ok.grd eT (Ok.join (Ok.grd eT (UG l _ (fun n=>Ok.ret trivial) _ _ _ eT eT)))
theorem ABR (l:List UInt8) (i:Int) (h0:0≤i) (hi:i<l.length) (hb:l.length≤1000000) (k6:Unit→Option (Int×Int×Int)) (hk:Ok (k6 ()) (fun r=>r.2.2=0→i<r.2.1∧r.2.1≤i+4∧r.2.1≤l.length)): ∀(k:Nat) (j:Int),1≤j→j≤5→5<k+j→Ok (EM N l i k6 k j) (fun r=>r.2.2=0→i<r.2.1∧r.2.1≤i+4∧r.2.1≤l.length)
 |0,j,_,_,h=>by omega
 | k+1,j,h1,h5,h=>by
  rw[EM];rw[AQ (n:=i+j) eT,AQ (n:=j+1) eT];refine Ok.meet (fun b:Bool=>b=true→j≤4∧i+j≤l.length) (fun b hb'=>?_) (fun k11 h11=>?_);·refine Ok.ite (fun ht=>?_) (fun _=>hk);obtain⟨e1,e2⟩:=hb' ht;refine Ok.bind (Ok.sub h0 eT e2) fun x hx=>?_;have hl:=hx.2;refine Ok.bind (AMv x eT eT) fun y _=>Ok.bind (QY y) fun z _=>?_;refine Ok.meet (fun _:Bool=>True) (fun b _=>Ok.ite (fun _=>Ok.ret (fun _=>⟨by simp only[];omega,by simp only[];omega,by simp only[];omega⟩)) (fun _=>ABR l i h0 hi hb k6 hk k (j+1) eT eT eT)) (fun k20 h20=>Ok.ite (fun _=>h20 _ trivial) (fun _=>h20 _ trivial))
  ·refine Ok.ite (fun hc=>h11 _ (fun ht=>?_)) (fun _=>h11 _ eU);simp only[al]at hc ht;omega
theorem AJw (l:List UInt8) (i:Int) (h0:0≤i) (h1:i<l.length) (hb:l.length≤1000000) (hN:10≤N):Ok (Ja N l i) (fun r=>r.2.2=0→i<r.2.1∧r.2.1≤i+4∧r.2.1≤l.length):=by
 unfold Ja;refine Ok.join (Ok.ite (fun hc=>?_) (fun _=>Ok.ite (fun hc=>?_) (fun _=>?_)));·simp only[al]at hc;omega
 ·simp only[al]at hc;omega
 ·exact Ok.join (ABR l i h0 h1 hb _ (Ok.ret eU) N 1 eT eT eT)
theorem Qi (l:List UInt8) (hb:l.length≤1000000) (hN:10≤N) (i0:Int) (k2:Unit→Option (List UInt8×Int×Int)) (hk:Ok (k2 ()) (fun r=>r.2.2=0→i0<r.2.1∧r.2.1≤l.length∧r.1.length≤4 * l.length)): ∀(k:Nat) (s:List UInt8) (i:Int),0≤i→i0<i→i≤l.length→(l.length:Int)<k+i→(s.length:Int)≤4 * i→Ok (Ei N l k2 k s i) (fun r=>r.2.2=0→i0<r.2.1∧r.2.1≤l.length∧r.1.length≤4 * l.length)
 |0,s,i,_,_,_,h,_=>by omega
 | k+1,s,i,h0,hi,h1,h,hs=>by
  rw[Ei];refine Ok.ite (fun hc=>?_) (fun _=>hk);simp only[al]at hc;refine Ok.bind (Ok.idx h0 hc) fun x _=>?_;rw[AQ (n:=i+1) eT];refine Ok.ite (fun _=>Ok.ret (fun _=>⟨by simp only[];omega,by simp only[];omega,by simp only[];omega⟩)) (fun _=>Ok.ite (fun _=>?_) (fun _=>Ok.ite (fun _=>Ok.ret eU) (fun _=>?_)));·refine Ok.bind (AIy l i h0 hc hb hN) fun y hy=>Ok.ite (fun hf=>Ok.ret (fun e=>by simp at hf;exact absurd e hf)) (fun hf=>?_);obtain⟨a1,a2,a3⟩:=hy (by simpa using hf);exact Ok.grd (by unfold AL;omega) (Qi l hb hN i0 k2 hk k _ _ eT eT a3 eT eW)
  ·refine Ok.bind (AJw l i h0 hc hb hN) fun y hy=>Ok.ite (fun hf=>Ok.ret (fun e=>by simp at hf;exact absurd e hf)) (fun hf=>?_);obtain⟨a1,a2,a3⟩:=hy (by simpa using hf);refine Ok.bind (Ok.sub h0 eT a3) fun z hz=>?_;have hl:=hz.2;exact Ok.grd (by unfold AL;omega) (Qi l hb hN i0 k2 hk k _ _ eT eT a3 eT eW)
theorem ATU (l:List UInt8) (i:Int) (h0:0≤i) (h1:i<l.length) (hb:l.length≤1000000) (hN:l.length+10≤N):Ok (K4 N l i) (fun r=>r.2.2=0→i<r.2.1∧r.2.1≤l.length∧r.1.length≤4 * l.length):=by unfold K4;rw[AQ (n:=i+1) eT];exact Ok.join (Qi l hb eT i _ (Ok.ret eU) N [] (i+1) eT eT eT eT eW)
theorem AOM (a:Int):Ok (Dj N a) (fun _=>True):=by unfold Dj;refine Ok.ite (fun _=>Ok.ite (fun _=>Ok.ret trivial) (fun _=>?_)) (fun _=>?_)<;>exact Ok.ite (fun _=>Ok.ret trivial) (fun _=>Ok.ret trivial)
theorem Ta (l:List UInt8) (hb:l.length≤1000000) (P:ApiToken×Int×Int→Prop) (j:Int) (hj:0≤j) (k34:Int→Option (ApiToken×Int×Int)) (hk: ∀n,0≤n→j+n≤l.length→Ok (k34 n) P): ∀(k:Nat) (n:Int),0≤n→j+n≤l.length→(l.length:Int)<k+j+n→Ok (FM N l j k34 k n) P |0,n,_,_,h=>by omega| k+1,n,h0,h1,h=>by rw[FM,AQ (n:=n+1) eT,AQ (n:=j+n) eT];refine Ok.meet (fun b:Bool=>b=true→j+n<l.length) (fun b hb'=>Ok.ite (fun ht=>Ta l hb P j hj k34 hk k (n+1) eT (by have:=hb' ht;omega) eT) (fun _=>hk n h0 h1)) (fun k39 h39=>?_);refine Ok.ite (fun hc=>?_) (fun _=>h39 _ eU);simp only[al]at hc;exact Ok.bind (Ok.idx eT hc) fun x _=>Ok.bind (AOM _) fun y _=>h39 _ (fun _=>hc)
theorem Tk (l:List UInt8) (hb:l.length≤1000000) (P:ApiToken×Int×Int→Prop) (i0:Int) (k6:Int→Option (ApiToken×Int×Int)) (hk: ∀i,i0≤i→i≤l.length→Ok (k6 i) P): ∀(k:Nat) (i:Int),0≤i→i0≤i→i≤l.length→(l.length:Int)<k+i→Ok (FK N l k6 k i) P |0,i,_,_,_,h=>by omega| k+1,i,h0,hi,h1,h=>by rw[FK,AQ (n:=i+1) eT];refine Ok.meet (fun b:Bool=>b=true→i<l.length) (fun b hb'=>Ok.ite (fun ht=>Tk l hb P i0 k6 hk k (i+1) eT eT (by have:=hb' ht;omega) eT) (fun _=>hk i hi h1)) (fun k11 h11=>?_);refine Ok.ite (fun hc=>?_) (fun _=>h11 _ eU);simp only[al]at hc;refine Ok.bind (Ok.idx h0 hc) fun x _=>?_;unfold Lm;rw[Vh _ _ eU];exact h11 _ (fun _=>hc)
structure TokOK (l:List UInt8) (i:Int) (r:ApiToken×Int×Int):Prop where
  good:r.2.2=0→i≤r.2.1∧r.2.1≤l.length∧r.1.text.length≤4 * l.length∧(r.1.kind≠1→i<r.2.1)
  bad:r.2.2≠0→r.1=ApiToken.mk 0 [] 0
theorem ARw (l:List UInt8) (i:Int) (h0:0≤i) (h1:i≤l.length) (hb:l.length≤1000000) (hN:l.length+10≤N):Ok (LA N l i) (TokOK l i):=by
 unfold LA;refine Ok.join (Ok.ite (fun hc=>?_) (fun _=>Ok.ite (fun hc=>?_) (fun _=>?_)));·simp only[al]at hc;omega
 ·simp only[al]at hc;omega
 ·have err: ∀e:Int,TokOK l i (ApiToken.mk 0 [] 0,0,e)→True:=fun _ _=>trivial;refine Ok.meet (fun j:Int=>i≤j∧j≤l.length) (fun j hj=>?_) (fun k6 h6=>Tk l hb _ i k6 (fun j a b=>h6 j ⟨a,b⟩) N i h0 (be _) h1 eT);refine Ok.ite (fun _=>Ok.ret ⟨fun _=>⟨by simp only[];omega,by simp only[];omega,eU,eU⟩,eU⟩) (fun hne=>?_);have hlt:j<l.length:=by
   have:j≠l.length:=by simpa using hne
   omega
  rw[AQ (n:=j+1) eT];refine Ok.bind (Ok.idx eT hlt) fun x _=>?_;rw[Vh _ _ eU,aa];refine Ok.ite (fun _=>?_) (fun _=>Ok.ite (fun _=>?_) (fun _=>?_));·exact Ok.bind (Ok.sub eT eT eT) fun y hy=>Ok.ret ⟨fun _=>⟨by simp only[];omega,by simp only[];omega,by have:=hy.2;simp only[];omega,fun _=>by simp only[];omega⟩,eU⟩
  ·refine Ok.bind (ATU l j eT hlt hb hN) fun y hy=>Ok.ite (fun hf=>Ok.ret ⟨fun e=>by simp at hf;exact absurd e hf,fun _=>rfl⟩) (fun hf=>?_);obtain⟨a1,a2,a3⟩:=hy (by simpa using hf);exact Ok.ret ⟨fun _=>⟨by simp only[];omega,a2,a3,fun _=>by simp only[];omega⟩,eU⟩
  ·refine Ok.meet (fun _:Bool=>True) (fun b _=>Ok.ite (fun _=>?_) (fun _=>?_)) (fun k24 h24=>Ok.ite (fun _=>h24 _ trivial) (fun _=>by rw[digit_eq,aa];exact h24 _ trivial))
   ·refine Ok.bind (Ok.sub eT eT (be _)) fun y hy=>?_;have hl:=hy.2;refine Ok.bind (TV y eT eT) fun n hn=>Ok.ite (fun _=>Ok.ret ⟨eU,fun _=>rfl⟩) (fun hf=>?_);have hn0:n≠0:=by simpa using hf
    rw[AQ (n:=j+n) eT];exact Ok.bind (Ok.sub eT eT eT) fun z hz=>Ok.ret ⟨fun _=>⟨by simp only[];omega,by simp only[];omega,by have:=hz.2;simp only[];omega,fun _=>by simp only[];omega⟩,eU⟩
   ·refine Ok.meet (fun n:Int=>0≤n∧j+n≤l.length) (fun n hn=>?_) (fun k34 h34=>Ta l hb _ j eT k34 (fun n a b=>h34 n ⟨a,b⟩) N 0 eT eT eT);rw[AQ (n:=j+n) eT];refine Ok.bind (Ok.sub eT eT eT) fun z hz=>?_;have hl:=hz.2;have pos: ∀w:List UInt8,0<w.length→(z==w)=true→0<n:=by
     intro w hw e;have:z=w:=by simpa using e
     subst this;omega
    refine Ok.meet (fun b:Bool=>b=true→0<n) (fun b hb'=>Ok.ite (fun ht=>?_) (fun _=>Ok.ret ⟨eU,fun _=>rfl⟩)) (fun k47 h47=>?_);·have:=hb' ht;exact Ok.ret ⟨fun _=>⟨by simp only[];omega,by simp only[];omega,by simp only[];omega,fun _=>by simp only[];omega⟩,eU⟩
    ·exact Ok.ite (fun h=>h47 _ (fun _=>pos _ eU h)) (fun _=>Ok.ite (fun h=>h47 _ (fun _=>pos _ eU h)) (fun _=>h47 _ (fun h=>pos _ eU h)))
end
end Go.VM
namespace Go.VM
def zeroV:ApiValue:=ApiValue.mk 0 [] [] []
def MJ:List (List UInt8)→List ApiValue→List UInt8→ApiValue×Bool |k::ks,x::xs,key=>if k==key then(x,true)else MJ ks xs key|_,_,_=>(zeroV,false)
def Ao (v:ApiValue) (key:List UInt8):ApiValue×Bool:=if v.kind==7 then MJ v.keys v.items key else(zeroV,false)
inductive okB (B:Nat):Nat→ApiValue→Prop |mk{d:Nat} (v:ApiValue) (ht:v.text.length≤300 * B) (hk:v.keys.length≤810+100 * B) (hl: ∀k,k∈v.keys→k.length≤300 * B) (hi:v.items.length≤800+100 * B) (h: ∀x,x∈v.items→okB B d x):okB B (d+1) v
abbrev okW:Nat→ApiValue→Prop:=okB 1
section
variable{N B:Nat}
theorem okB.text{d:Nat}{v:ApiValue}:okB B d v→v.text.length≤300 * B|.mk _ h _ _ _ _=>h
theorem okB.keys{d:Nat}{v:ApiValue}:okB B d v→v.keys.length≤810+100 * B|.mk _ _ h _ _ _=>h
theorem okB.items{d:Nat}{v:ApiValue}:okB B d v→v.items.length≤800+100 * B|.mk _ _ _ _ h _=>h
theorem okB.sub{d:Nat}{v:ApiValue}:okB B (d+1) v→ ∀x,x∈v.items→okB B d x|.mk _ _ _ _ _ h=>h
theorem okB.pos{d:Nat}{v:ApiValue}:okB B d v→0<d|.mk _ _ _ _ _ _=>by omega
theorem okW.text{d:Nat}{v:ApiValue} (h:okW d v):v.text.length≤300:=okB.text h
theorem okW.keys{d:Nat}{v:ApiValue} (h:okW d v):v.keys.length≤910:=okB.keys h
theorem okW.items{d:Nat}{v:ApiValue} (h:okW d v):v.items.length≤900:=okB.items h
theorem okW.sub{d:Nat}{v:ApiValue} (h:okW (d+1) v): ∀x,x∈v.items→okW d x:=okB.sub h
theorem okB.mono{d:Nat}{v:ApiValue} (h:okB B d v): ∀e,d≤e→okB B e v:=by induction h with | mk v ht hk hl hi h ih=>intro e he;obtain⟨e',rfl⟩: ∃e',e=e'+1:=⟨e-1,eT⟩;exact .mk v ht hk hl hi fun x hx=>ih x hx e' eT
theorem ADP (v:ApiValue) (key:List UInt8) (k5:Unit→Option (ApiValue×Bool)): ∀(ks:List (List UInt8)) (i:Int),(v.items.length:Int)≤i→CS N v key k5 ks i=k5 ()
 |[],i,h=>by rw[CS]
 | x::ks,i,h=>by
  have h3:decide (i<(v.items.length:Int))=false:=by simp;omega
  rw[CS,AB,h3,ADP v key k5 ks (i+1) eT];simp
theorem ABi (v:ApiValue) (key:List UInt8) (k5:Unit→Option (ApiValue×Bool)) (h5:k5 ()=some (zeroV,false)): ∀(ks:List (List UInt8)) (xs xpre:List ApiValue),v.items=xpre++xs→CS N v key k5 ks (xpre.length:Int)=some (if v.kind==7 then MJ ks xs key else(zeroV,false))
 | [],xs,xpre,hx=>by rw[CS];simp[h5,MJ]
 | x::ks,[],xpre,hx=>by
  have e:MJ (x::ks) [] key=(zeroV,false):=by simp[MJ]
  rw[ADP v key k5 _ _ (by rw[hx];simp),h5,e];simp
 | x::ks,y::ys,xpre,hx=>by have ih:=ABi v key k5 h5 ks ys (xpre++[y]) (by rw[hx];simp);rw[CS,AB,AQu hx,AGD hx,aa,NR xpre y,ih,MJ];cases v.kind==7<;>cases x==key<;>simp
theorem Sb (v:ApiValue) (key:List UInt8) (hb:v.keys.length≤900000):Fh N v key=some (Ao v key):=by have:=ABi (N:=N) v key (fun _=>some (zeroV,false)) rfl v.keys v.items [] rfl;unfold Fh Ao;rw[AB,BR eT];exact this
theorem VH (v:ApiValue) (key:List UInt8) (k2:Unit→Option (ApiValue×Bool)): ∀(ks:List (List UInt8)) (i:Int),(v.items.length:Int)≤i→Dl N v key k2 ks i=k2 ()
 |[],i,h=>by rw[Dl]
 | x::ks,i,h=>by
  have h3:decide (i<(v.items.length:Int))=false:=by simp;omega
  rw[Dl,AB,h3,VH v key k2 ks (i+1) eT];simp
theorem Vq (v:ApiValue) (key:List UInt8) (k2:Unit→Option (ApiValue×Bool)) (h5:k2 ()=some (zeroV,false)): ∀(ks:List (List UInt8)) (xs xpre:List ApiValue),v.items=xpre++xs→Dl N v key k2 ks (xpre.length:Int)=some (MJ ks xs key)
 | [],xs,xpre,hx=>by rw[Dl];simp[h5,MJ]
 | x::ks,[],xpre,hx=>by
  have e:MJ (x::ks) [] key=(zeroV,false):=by simp[MJ]
  rw[VH v key k2 _ _ (by rw[hx];simp),h5,e]
 | x::ks,y::ys,xpre,hx=>by have ih:=Vq v key k2 h5 ks ys (xpre++[y]) (by rw[hx];simp);rw[Dl,AB,AQu hx,AGD hx,aa,NR xpre y,ih,MJ];cases x==key<;>simp
theorem N7 (v:ApiValue) (key:List UInt8) (hb:v.keys.length≤4611686018427387904):F4 N v key=some (Ao v key):=by
 unfold F4 Ao;cases h:(v.kind==7)
 ·have:(v.kind !=7)=true:=by simp only[bne,h,bg]
  rw[ah this];rfl
 ·have:(v.kind !=7)=false:=by simp only[bne,h,bI]
  rw[this,ag eU,AB,BR eT];exact Vq (N:=N) v key (fun _=>some (zeroV,false)) rfl v.keys v.items [] rfl
theorem AAw: ∀(ks:List (List UInt8)) (xs:List ApiValue) (key:List UInt8),(MJ ks xs key).1∈xs∨(MJ ks xs key).1=zeroV
 |[],_,_=>.inr rfl
 |_::_,[],_=>.inr rfl
 | k::ks,x::xs,key=>by
  rw[MJ];split;·exact .inl eU
  ·rcases AAw ks xs key with h|h;·exact .inl (by simp[h])
   ·exact .inr h
theorem ARA (v:ApiValue) (key:List UInt8):(Ao v key).1∈v.items∨(Ao v key).1=zeroV:=by
 unfold Ao;split;·exact AAw _ _ _
 ·exact .inr rfl
inductive okD:Nat→ApiValue→Prop |mk{d:Nat} (v:ApiValue) (hk:v.keys.length≤4611686018427387904) (hi:v.items.length≤4611686018427387904) (h: ∀x,x∈v.items→okD d x):okD (d+1) v
theorem okB.dB{d:Nat}{v:ApiValue} (h:okB B d v) (hB:B≤1000):okD d v:=by induction h with |mk v ht hk hl hi h ih=>exact .mk v eT eT ih
theorem okW.d{d:Nat}{v:ApiValue} (h:okW d v):okD d v:=okB.dB h eT
end
end Go.VM
namespace Go.VM
section
variable{N:Nat}{l:List UInt8}
inductive okT:ApiValue→Prop |mk (v:ApiValue) (ht:v.text.length≤100000) (hk:v.keys.length≤900000) (hi:v.items.length≤900000) (h: ∀x,x∈v.items→okT x):okT v
theorem okT.text{v:ApiValue}:okT v→v.text.length≤100000|.mk _ h _ _ _=>h
theorem okT.keys{v:ApiValue}:okT v→v.keys.length≤900000|.mk _ _ h _ _=>h
theorem okT.items{v:ApiValue}:okT v→v.items.length≤900000|.mk _ _ _ h _=>h
theorem okT.sub{v:ApiValue}:okT v→ ∀x,x∈v.items→okT x|.mk _ _ _ _ h=>h
theorem QL:okT zeroV:=.mk _ (by simp[zeroV]) (by simp[zeroV]) (by simp[zeroV]) (by simp[zeroV])
theorem J5{v:ApiValue} (h:okT v) (key:List UInt8):okT (Ao v key).1:=by
 rcases ARA v key with e|e;·exact h.sub _ e
 ·rw[e];exact QL
def JB (p:Ref14Parser) (i e:Int):Ref14Parser:=if p.fail==0 then Ref14Parser.mk p.s p.at_ p.nodes e i else p
theorem EC (p:Ref14Parser) (i e:Int):Av N p i e=some (JB p i e):=by unfold Av JB;split<;>rfl
theorem Im (t:ApiToken) (c:List UInt8):FX N t c=some (t.kind==2&&t.text==c):=by unfold FX;cases t.kind==2<;>simp
structure PIPprs (l:List UInt8) (p:Ref14Parser):Prop where
  s:p.s=l
  lo:0≤p.at_
  hi:p.at_≤l.length
theorem PIPprs.stop{p:Ref14Parser} (h:PIPprs l p) (i e:Int):PIPprs l (JB p i e):=by
 unfold JB;split;·exact⟨h.s,h.lo,h.hi⟩
 ·exact h
theorem FJ (p:Ref14Parser) (i e:Int):(JB p i e).at_=p.at_:=by unfold JB;split<;>rfl
theorem L9 (p:Ref14Parser) (i e:Int) (he:e≠0):(JB p i e).fail≠0:=by
 unfold JB;split;·exact he
 ·rename_i h;simpa using h
structure NXPprs (l:List UInt8) (p:Ref14Parser) (r:ApiToken×Ref14Parser):Prop where
  pi:PIPprs l r.2
  le:p.at_≤r.2.at_
  txt:r.1.text.length≤4 * l.length
  on:r.2.fail=0→p.fail=0∧(r.1.kind≠1→p.at_<r.2.at_)
theorem Eg (hb:l.length≤100000) (hN:l.length+10≤N) (p:Ref14Parser) (h:PIPprs l p):Ok (Az N p) (NXPprs l p):=by
 unfold Az;refine Ok.ite (fun hf=>Ok.ret ⟨h,be _,eU,fun e=>by simp at hf;exact absurd e hf⟩) (fun hf=>?_);have hf0:p.fail=0:=by simpa using hf
 rw[h.s];refine Ok.join (Ok.bind (ARw l p.at_ h.lo h.hi eT hN) fun y hy=>?_);refine Ok.ite (fun he=>?_) (fun he=>?_)
 ·rw[EC,aa];have he':y.2.2≠0:=by simpa using he
  exact Ok.ret ⟨h.stop _ _,by rw[FJ];exact be _,eU,fun e=>absurd e (L9 _ _ _ he')⟩
 ·obtain⟨a1,a2,a3,a4⟩:=hy.good (by simpa using he);exact Ok.ret ⟨⟨rfl,by have:=h.lo;simp only[];omega,a2⟩,a1,a3,fun _=>⟨hf0,a4⟩⟩
structure VRPprs (l:List UInt8) (p:Ref14Parser) (r:ApiValue×Ref14Parser):Prop where
  v:okT r.1
  pi:PIPprs l r.2
  le:p.at_≤r.2.at_
def Gu (l:List UInt8) (p:Ref14Parser):Nat:=if p.fail=0 then l.length-p.at_.toNat+2 else 1
theorem KZ (p:Ref14Parser):1≤Gu l p:=by unfold Gu;split<;>omega
theorem Od{p q:Ref14Parser} (hp:PIPprs l p) (hf:p.fail=0) (hq:PIPprs l q) (h:q.fail=0→p.at_<q.at_):Gu l q+1≤Gu l p:=by
 have:=hp.lo;have:=hp.hi;have:=hq.hi;unfold Gu;rw[ah hf];split;·rename_i e;have:=h e;omega
 ·omega
theorem AHP{items:List ApiValue} (kind:Int) (hl:items.length≤900000) (h: ∀x,x∈items→okT x):okT (ApiValue.mk kind [] [] items):=.mk _ eU eU hl h
theorem QC (hb:l.length≤100000) (hN:l.length+10≤N) (d:Int) (rc:Ref14Parser→ApiToken→Int→Option (ApiValue×Ref14Parser)) (hrc: ∀p t,PIPprs l p→t.text.length≤4 * l.length→Ok (rc p t d) (VRPprs l p)) (p0:Ref14Parser): ∀(k:Nat) (t:ApiToken) (items:List ApiValue) (p:Ref14Parser),PIPprs l p→p0.at_≤p.at_→t.text.length≤4 * l.length→(∀x,x∈items→okT x)→Gu l p≤k→items.length+Gu l p≤200000→Ok (Br N d rc (fun j5=>some (ApiValue.mk 6 [] [] j5.2.1,j5.2.2)) k t items p) (VRPprs l p0)
 |0,t,items,p,_,_,_,_,h,_=>by have:=KZ (l:=l) p;omega
 | k+1,t,items,p,hp,hle,ht,hi,hk,hB=>by
  rw[Br];have hpos:=KZ (l:=l) p;refine Ok.ite (fun hf=>?_) (fun _=>Ok.ret ⟨AHP _ (by simp only[];omega) hi,hp,hle⟩);have hf0:p.fail=0:=by simpa using hf
  refine Ok.join (Ok.bind (hrc p t hp ht) fun y14 h14=>Ok.grd (O0 eT eT) ?_);refine Ok.bind (Eg hb hN y14.2 h14.pi) fun y16 h16=>?_;rw[Im,aa];have hitems: ∀x,x∈items++[y14.1]→okT x:=fun x hx=>by
   rcases aV.1 hx with hx|hx;·exact hi x hx
   ·simp at hx;rw[hx];exact h14.v
  have a1:=h14.le;have a2:=h16.le;refine Ok.ite (fun _=>Ok.ret ⟨AHP _ eW hitems,h16.pi,by simp only[];omega⟩) (fun _=>?_);refine Ok.meet (fun j:Ref14Parser=>PIPprs l j∧p.at_≤j.at_∧(j.fail=0→p.at_<j.at_)) (fun j hj=>?_) (fun k21 h21=>?_);·refine Ok.bind (Eg hb hN j hj.1) fun y32 h32=>?_;have a3:=h32.le;have hl:=Od hp hf0 h32.pi (fun e=>by have:=hj.2.2 (h32.on e).1;omega);exact QC hb hN d rc hrc p0 k y32.1 _ y32.2 h32.pi eT h32.txt hitems eT eW
  ·refine Ok.meet (fun b:Bool=>b=false→y16.2.fail=0→p.at_<y16.2.at_) (fun b hb'=>?_) (fun k25 h25=>?_);·refine Ok.ite (fun _=>?_) (fun hf=>h21 _ ⟨h16.pi,eT,hb' hf⟩);rw[EC,aa];exact h21 _ ⟨h16.pi.stop _ _,by rw[FJ];omega,fun e=>absurd e (L9 _ _ _ eV)⟩
   ·refine Ok.ite (fun hz=>?_) (fun hz=>h25 _ (fun _ e=>by simp[e]at hz));rw[Im,aa];refine h25 _ (fun hc e=>?_);have hk2:y16.1.kind=2:=by simp only[dP,az,bw]at hc;exact hc.1
    have:=(h16.on e).2 (by rw[hk2];decide);omega
theorem P5 (hb:l.length≤100000) (hN:l.length+10≤N) (d:Int) (rc:Ref14Parser→ApiToken→Int→Option (ApiValue×Ref14Parser)) (hrc: ∀p t,PIPprs l p→t.text.length≤4 * l.length→Ok (rc p t d) (VRPprs l p)) (p0:Ref14Parser): ∀(k:Nat) (t:ApiToken) (keys:List (List UInt8)) (items:List ApiValue) (p:Ref14Parser),PIPprs l p→p0.at_≤p.at_→t.text.length≤4 * l.length→(∀x,x∈items→okT x)→Gu l p≤k→items.length+Gu l p≤200000→keys.length=items.length→Ok (Bi N d rc (fun j5=>some (ApiValue.mk 7 [] j5.2.1 j5.2.2.1,j5.2.2.2)) k t keys items p) (VRPprs l p0)
 |0,t,keys,items,p,_,_,_,_,h,_,_=>by have:=KZ (l:=l) p;omega
 | k + 1,t,keys,items,p,hp,hle,ht,hi,hk,hB,hkl=>by
  rw[Bi];have hpos:=KZ (l:=l) p;have okO: ∀(ks:List (List UInt8)) (xs:List ApiValue),ks.length≤900000→xs.length≤900000→(∀x,x∈xs→okT x)→okT (ApiValue.mk 7 [] ks xs):=fun ks xs h1 h2 h3=>.mk _ eU h1 h2 h3;refine Ok.ite (fun hf=>?_) (fun _=>Ok.ret ⟨okO _ _ (by simp only[];omega) (by simp only[];omega) hi,hp,hle⟩);have hf0:p.fail=0:=by simpa using hf
  refine Ok.meet (fun j:Ref14Parser=>PIPprs l j∧p.at_≤j.at_) (fun j10 h10=>?_) (fun k11 h11=>?_)
  ·refine Ok.meet (fun j:Ref14Parser=>PIPprs l j∧p.at_≤j.at_) (fun j16 h16=>?_) (fun k17 h17=>?_)
   ·refine Ok.meet (fun j:ApiToken×Ref14Parser=>PIPprs l j.2∧p.at_≤j.2.at_) (fun j24 h24=>?_) (fun k25 h25=>?_)
    ·refine Ok.bind (Eg hb hN j24.2 h24.1) fun y38 h38=>?_;refine Ok.bind (hrc y38.2 y38.1 h38.pi h38.txt) fun y40 h40=>Ok.grd (O0 eT eT) (Ok.grd (O0 eT eT) ?_);refine Ok.bind (Eg hb hN y40.2 h40.pi) fun y42 h42=>?_;rw[Im,aa];have hitems: ∀x,x∈items++[y40.1]→okT x:=fun x hx=>by
      rcases aV.1 hx with hx|hx;·exact hi x hx
      ·simp at hx;rw[hx];exact h40.v
     have a0:=h24.2;have a1:=h38.le;have a2:=h40.le;have a3:=h42.le;refine Ok.ite (fun _=>Ok.ret ⟨okO _ _ eW eW hitems,h42.pi,by simp only[];omega⟩) (fun _=>?_);refine Ok.meet (fun j:Ref14Parser=>PIPprs l j∧p.at_≤j.at_∧(j.fail=0→p.at_<j.at_)) (fun j hj=>?_) (fun k47 h47=>?_);·refine Ok.bind (Eg hb hN j hj.1) fun y58 h58=>?_;have a4:=h58.le;have hl:=Od hp hf0 h58.pi (fun e=>by have:=hj.2.2 (h58.on e).1;omega);exact P5 hb hN d rc hrc p0 k y58.1 _ _ y58.2 h58.pi eT h58.txt hitems eT eW eW
     ·refine Ok.meet (fun b:Bool=>b=false→y42.2.fail=0→p.at_<y42.2.at_) (fun b hb'=>?_) (fun k51 h51=>?_);·refine Ok.ite (fun _=>?_) (fun hf=>h47 _ ⟨h42.pi,eT,hb' hf⟩);rw[EC,aa];exact h47 _ ⟨h42.pi.stop _ _,by rw[FJ];omega,fun e=>absurd e (L9 _ _ _ eV)⟩
      ·refine Ok.ite (fun hz=>?_) (fun hz=>h51 _ (fun _ e=>by simp[e]at hz));rw[Im,aa];refine h51 _ (fun hc e=>?_);have hk2:y42.1.kind=2:=by simp only[dP,az,bw]at hc;exact hc.1
       have:=(h42.on e).2 (by rw[hk2];decide);omega
    ·refine Ok.bind (Eg hb hN j16 h16.1) fun y28 h28=>?_;have a1:=h28.le;have a2:=h16.2;refine Ok.meet (fun _:Bool=>True) (fun b _=>Ok.ite (fun _=>?_) (fun _=>h25 _ ⟨h28.pi,by simp only[];omega⟩)) (fun k31 h31=>Ok.ite (fun _=>by rw[Im,aa];exact h31 _ trivial) (fun _=>h31 _ trivial));rw[EC,aa];exact h25 _ ⟨h28.pi.stop _ _,by simp only[FJ];omega⟩
   ·rw[N7 _ _ (by simp only[];omega),aa];refine Ok.ite (fun _=>?_) (fun _=>h17 _ h10);rw[EC,aa];exact h17 _ ⟨h10.1.stop _ _,by rw[FJ];exact h10.2⟩
  ·refine Ok.ite (fun _=>?_) (fun _=>h11 _ ⟨hp,be _⟩);rw[EC,aa];exact h11 _ ⟨hp.stop _ _,by rw[FJ];exact be _⟩
theorem ABm (t:List UInt8):Ok (Kl N t) (fun _=>True):=by unfold Kl;exact Ok.ite (fun _=>Ok.ret trivial) (fun _=>Ok.ite (fun _=>Ok.ret trivial) (fun _=>Ok.ret trivial))
theorem OZ (hb:l.length≤10000) (hN:4 * l.length+1000≤N): ∀D:Nat,(∀(p:Ref14Parser) (t:ApiToken) (d:Int),PIPprs l p→t.text.length≤4 * l.length→0≤d→d≤64→2 * (64-d)+2≤D→Ok (BU N D p t d) (VRPprs l p))∧(∀(p:Ref14Parser) (d:Int),PIPprs l p→0≤d→d≤64→2 * (64-d)+3≤D→Ok (Dv N D p d) (VRPprs l p))∧(∀(p:Ref14Parser) (d:Int),PIPprs l p→0≤d→d≤64→2 * (64-d)+3≤D→Ok (DW N D p d) (VRPprs l p))
 |0=>⟨fun p t d _ _ _ _ h=>by omega,fun p d _ _ _ h=>by omega,fun p d _ _ _ h=>by omega⟩
 | D+1=>by
  obtain⟨ihv,iha,iho⟩:=OZ hb hN D;have hleft: ∀q:Ref14Parser,Gu l q≤l.length+2:=fun q=>by unfold Gu;split<;>omega
  refine⟨fun p t d hp ht h0 h64 hD=>?_,fun p d hp h0 h64 hD=>?_,fun p d hp h0 h64 hD=>?_⟩
  ·rw [BU];simp only[Im,aa];have z: ∀q,PIPprs l q→p.at_≤q.at_→Ok (some (ApiValue.mk 0 [] [] [],q)) (VRPprs l p):=fun q h1 h2=>Ok.ret ⟨QL,h1,h2⟩;refine Ok.meet (fun _:Bool=>True) (fun b _=>?_) (fun k2 h2=>?_)
   ·refine Ok.ite (fun _=>z p hp (be _)) (fun _=>Ok.ite (fun _=>?_) (fun _=>?_))
    ·refine Ok.meet (fun b:Bool=>b=false→t.kind=2→d<64) (fun b hb'=>?_) (fun k10 h10=>?_)
     ·refine Ok.ite (fun _=>?_) (fun hf=>?_);·rw[EC,aa];exact z _ (hp.stop _ _) (by rw[FJ];exact be _)
      ·have hd:=hb' hf;refine Ok.meet (fun j:Int×List UInt8×Ref14Parser=>PIPprs l j.2.2∧p.at_≤j.2.2.at_∧j.2.1.length≤100000) (fun j hj=>?_) (fun k16 h16=>?_)
       ·refine Ok.meet (fun q:List UInt8×Int×Int×Int×Int=>PIPprs l (Ref14Parser.mk q.1 q.2.1 q.2.2.1 q.2.2.2.1 q.2.2.2.2)∧p.at_≤q.2.1) (fun q hq=>?_) (fun k28 h28=>?_)
        ·refine Ok.ite (fun _=>Ok.bind (ABm _) fun y _=>Ok.ret ⟨.mk _ eU eU eU eU,hq.1,hq.2⟩) (fun _=>?_);refine Ok.ite (fun hc=>?_) (fun _=>Ok.ite (fun hc=>?_) (fun _=>Ok.ret ⟨.mk _ hj.2.2 eU eU eU,hq.1,hq.2⟩))
         ·have hk:t.kind=2:=by simp only[az,bw]at hc;exact hc.1
          have:=hd hk;rw[AQ (n:=d+1) eT];refine Ok.bind (iha _ (d+1) hq.1 eT eT eT) fun y hy=>Ok.ret ⟨hy.v,hy.pi,?_⟩;exact Int.le_trans hq.2 hy.le
         ·have hk:t.kind=2:=by simp only[az,bw]at hc;exact hc.1
          have:=hd hk;rw[AQ (n:=d+1) eT];refine Ok.bind (iho _ (d+1) hq.1 eT eT eT) fun y hy=>Ok.ret ⟨hy.v,hy.pi,?_⟩;exact Int.le_trans hq.2 hy.le
        ·have hm:PIPprs l (Ref14Parser.mk j.2.2.s j.2.2.at_ (wr .i64 (j.2.2.nodes+1)) j.2.2.fail j.2.2.where_):=⟨hj.1.s,hj.1.lo,hj.1.hi⟩;refine Ok.ite (fun _=>?_) (fun _=>h28 _ ⟨hm,hj.2.1⟩);rw[EC,aa];exact h28 _ ⟨hm.stop _ _,by simp only[FJ];exact hj.2.1⟩
       ·refine Ok.ite (fun _=>?_) (fun _=>h16 _ ⟨hp,be _,by dsimp only;omega⟩);refine Ok.bind (AJ2 t.text eT eT) fun y hy=>?_;refine Ok.join (Ok.ite (fun _=>?_) (fun _=>h16 _ ⟨hp,be _,by dsimp only;omega⟩));rw[EC,aa];exact h16 _ ⟨hp.stop _ _,by simp only[FJ];exact be _,by dsimp only;omega⟩
     ·refine Ok.ite (fun _=>h10 _ (fun hf _=>?_)) (fun hk=>h10 _ (fun _ h=>by simp[h]at hk));have:d≠64:=by simpa using hf
      omega
    ·rw[EC,aa];exact z _ (hp.stop _ _) (by rw[FJ];exact be _)
   ·refine Ok.ite (fun _=>h2 _ trivial) (fun _=>Ok.ite (fun _=>h2 _ trivial) (fun _=>Ok.ite (fun _=>h2 _ trivial) (fun _=>Ok.ite (fun _=>h2 _ trivial) (fun _=>h2 _ trivial))))
  ·rw[Dv];refine Ok.bind (Eg eT eT p hp) fun y1 h1=>?_;rw[Im,aa];refine Ok.ite (fun _=>Ok.ret ⟨.mk _ eU eU eU eU,h1.pi,h1.le⟩) (fun _=>?_);have:=hleft y1.2;exact Ok.join (QC eT eT d (BU N D) (fun q t hq ht=>ihv q t d hq ht h0 h64 eT) p N y1.1 [] y1.2 h1.pi h1.le h1.txt eU eT eW)
  ·rw[DW];refine Ok.bind (Eg eT eT p hp) fun y1 h1=>?_;rw[Im,aa];refine Ok.ite (fun _=>Ok.ret ⟨.mk _ eU eU eU eU,h1.pi,h1.le⟩) (fun _=>?_);have:=hleft y1.2;exact Ok.join (P5 eT eT d (BU N D) (fun q t hq ht=>ihv q t d hq ht h0 h64 eT) p N y1.1 [] [] y1.2 h1.pi h1.le h1.txt eU eT eW rfl)
theorem PM (hb:l.length≤10000) (hN:4 * l.length+1000≤N):Ok (GI N l) (fun r=>okT r.1∧(r.2.2≠0→r.1=zeroV)):=by unfold GI;refine Ok.ite (fun _=>Ok.ret ⟨QL,fun _=>rfl⟩) (fun _=>?_);have h0:PIPprs l (Ref14Parser.mk l 0 0 0 0):=⟨rfl,be _,by simp only[];omega⟩;refine Ok.bind (Eg eT eT _ h0) fun y1 h1=>?_;refine Ok.bind ((OZ hb hN N).1 y1.2 y1.1 0 h1.pi h1.txt eT eT eT) fun y3 h3=>?_;refine Ok.join (Ok.bind (Eg eT eT y3.2 h3.pi) fun y9 h9=>?_);have fin: ∀p:Ref14Parser,Ok (if(p.fail !=0)=true then some (ApiValue.mk 0 [] [] [],p.where_,p.fail)else some (y3.1,(l.length:Int),0)) (fun r=>okT r.1∧(r.2.2≠0→r.1=zeroV)):=fun p=>Ok.ite (fun _=>Ok.ret ⟨QL,fun _=>rfl⟩) (fun _=>Ok.ret ⟨h3.v,eU⟩);refine Ok.join (Ok.ite (fun _=>Ok.ite (fun _=>?_) (fun _=>fin _)) (fun _=>Ok.ite (fun h=>by cases h) (fun _=>fin _)));rw[EC,aa];exact fin _
end
end Go.VM
