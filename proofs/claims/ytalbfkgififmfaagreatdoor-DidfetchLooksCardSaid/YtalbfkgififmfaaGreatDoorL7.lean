import Derived.Test.YtalbfkgififmfaaGreatDoorL6
set_option linter.defProp false
set_option linter.unusedVariables false
set_option linter.unusedSimpArgs false
namespace Go.VM
section
variable{N:Nat}
def Akf (l:B8):Bool:=!l.isEmpty&&l.all Fj
def AfB (l:B8):Int:=if((XF 4611686018427387904 l).2 !=0)=true then 4611686018427387904 else(XF 4611686018427387904 l).1
def AB2 (v:B8):Int×Bool:=if((AV 44 v).all λx=>trimB x==trimB (Ac 44 v).1&&Akf (trimB (Ac 44 v).1))=true then(AfB (trimB (Ac 44 v).1),true)else(0,false)
def ADH (c:UInt8): ∀(n:Nat) (l:B8),l.length=n->∀x,x∈AV c l->x.length<=l.length:=by
 intro n;induction n using Nat.strongRecOn with
 | _ n ih=>
  intro l hl x hx;rw[NF]at hx;have h1:=FZ c l;split at hx
  ·rename_i h2;rcases aO.1 hx with rfl|hx;·exact h1.1
   ·have h3:=AVV h2;have:=ih _ fM (Ac c l).2.1 rfl x hx;omega
  ·rw[aV.1 hx];exact h1.1
def AG5{F:B8} (hF:F.length<=1000000) (k6:Unit->Option (Int×Bool)) (hN:1000010<=N): ∀xs:List B8,(∀x,x∈xs->x.length<=1000000)->I9 N F k6 xs=if(xs.all λx=>trimB x==F&&Akf F)=true then k6 ()else some (0,false)
 |[],_=>rfl
 | x::xs,h=>by
  have hx:=h x (.head _);rw[I9,ACh fM fM,aQ];simp only[AB,aa];cases h1:trimB x==F;·rfl
  ·simp only[az,bM];rw[Rx _ fM,aa,AG5 hF k6 hN xs λy hy=>h y (.tail _ hy)];unfold Akf;cases (!F.isEmpty&&F.all Fj);·rfl
   ·rfl
def AFn{F:B8} (k5:List B8->Option (Int×Bool)) (hN:1000010<=N): ∀(suf pre:List B8),(∀x,x∈suf->x.length<=1000000)->(pre++suf.map trimB).head?=some F->GR N k5 suf (pre.length:Int) (pre++suf)=if(suf.all λx=>trimB x==F&&Akf F)=true then k5 (pre++suf.map trimB)else some (0,false)
 |[],pre,_,_=>by rw[GR];rfl
 |x::t,pre,h,hF=>by
  have hx:=h x (.head _);have hset:(pre++x::t).set ((pre.length:Nat):Int).toNat (trimB x)=(pre++[trimB x])++t:=fN;have hi0:idx ((pre++[trimB x])++t) 0=some F:=by rw[show(0:Int)=((0:Nat):Int)from rfl,D7];cases pre with|nil=>simpa using hF|cons y pre=>simpa using hF
  have hii:idx ((pre++[trimB x])++t) (pre.length:Int)=some (trimB x):=by rw[aJ];exact Wu pre t (trimB x)
  have ih:=AFn (F:=F) k5 hN t (pre++[trimB x]) (λy hy=>h y (.tail _ hy)) (by simpa using hF);rw[ag,bu]at ih;have htl:=Yz x;rw[GR,Wu,aa,AR8 fM fM,aa];simp only[AB,hset,hi0,hii,aa];rw[YB _ fM,aa,aQ,show(pre.length:Int)+1=((pre.length+1:Nat):Int) by omega,ih];have hm:pre++[trimB x]++t.map trimB=pre++(x::t).map trimB:=fN;rw[hm];cases h1:trimB x==F;·cases (!(trimB x).isEmpty&&(trimB x).all Fj)<;>rfl
  ·rw[be.1 h1];unfold Akf;cases (!F.isEmpty&&F.all Fj)<;>rfl
def Atm{v:B8} (hb:v.length<=1000000) (hN:1000010<=N):Qv N v=some (AB2 v):=by
 unfold Qv;have hc:=FZ 44 v;have ht:=Yz (Ac 44 v).1;have hM: ∀l:B8,l.length<=1000000->IL N l 4611686018427387904=some (XF 4611686018427387904 l):=λl hl=>AFv (m:=4611686018427387904) fM l fM;rw[P6 _ _ fM,aa,ACh fM fM,aa,Wq _ _ hb];simp only[AB,aa];have hs: ∀x,x∈AV 44 v->x.length<=1000000:=λx hx=>by have:=ADH 44 _ v rfl x hx;omega
 rw[Ap (by have:=H5 44 v;omega),AG5 fM _ hN _ hs,hM _ fM];unfold AB2 AfB;split;·rw[aa];generalize XF 4611686018427387904 _=P;cases (P.2 !=0)<;>rfl
 ·rfl
def Acf{v:B8} (hb:v.length<=1000000) (hN:1000010<=N):NH N v=some (AB2 v):=by
 unfold NH;have hc:=FZ 44 v;have ht:=Yz (Ac 44 v).1;have hM: ∀l:B8,l.length<=1000000->Ia N l 4611686018427387904=some (XF 4611686018427387904 l):=λl hl=>by unfold Ia;rw[show(4611686018427387904:Int)=((4611686018427387904:Nat):Int)from rfl,ADp fM fM _ fM,aa]
 have hsp:Aa6 (En N v 44)=some (AV 44 v):=QG v 44 hb;have hs: ∀x,x∈AV 44 v->x.length<=1000000:=λx hx=>by have:=ADH 44 _ v rfl x hx;omega
 have hh:((AV 44 v).map trimB).head?=some (trimB (Ac 44 v).1):=by have:=ZZ 44 v;rw[<-fk]at this;rw[List.head?_map,this];rfl
 have hl:=AFn (N:=N) (F:=trimB (Ac 44 v).1) (λj4=>(idx j4 0).bind λx20=>(Ia N x20 4611686018427387904).bind λy21=>if(y21.2 !=0)=true then some (4611686018427387904,true)else some (y21.1,true)) hN (AV 44 v) [] hs hh;rw[hsp,aa];simp only[AB];rw[Ap (by have:=H5 44 v;omega)];simp only[aq,bl]at hl;rw[show((0:Nat):Int)=0 from rfl]at hl;refine hl.trans ?_;have hi:idx ((AV 44 v).map trimB) 0=some (trimB (Ac 44 v).1):=by rw[show(0:Int)=((0:Nat):Int)from rfl,D7,<-fk];exact hh
 rw[hi,aa,hM _ fM,aa];unfold AB2 AfB;split;·generalize XF 4611686018427387904 _=P;cases (P.2 !=0)<;>rfl
 ·rfl
def Ako (m:Nat) (l:B8):0<=(XF m l).1/\(XF m l).1<=m:=by
 unfold XF;split;·exact⟨bE 0,fM⟩
 ·split
  ·split;·exact⟨by simp only;omega,by simp only;omega⟩
   ·exact⟨bE 0,fM⟩
  ·exact⟨bE 0,fM⟩
def Alt (l:B8):0<=AfB l/\AfB l<=4611686018427387904:=by unfold AfB;have:=Ako 4611686018427387904 l;split<;>omega
def AmR (v:B8):0<=(AB2 v).1/\(AB2 v).1<=4611686018427387904:=by
 unfold AB2;split;·exact Alt _
 ·exact⟨bE 0,(by show(0:Int)<=4611686018427387904;decide)⟩
def ATV (name:B8): ∀fs:List AG,SK (Ee name fs)<=EQ fs
 |[]=>av _
 |f::fs=>by
  have ih:=ATV name fs;unfold Ee SK EQ at *;rw[dC];split;·simp only[aH,cx];omega
  ·simp only[aH,cx];omega
def ASH{fs:List AG}{f:AG} (h:f∈fs):f.name.length+f.value.length<=EQ fs:=by
 induction fs with
 |nil=>cases h
 |cons g fs ih=>
  unfold EQ at *;rcases aO.1 h with rfl|h;·simp only[aH,cx];omega
  ·have:=ih h;simp only[aH,cx];omega
def AGQ{h:AH} (hh:Fok 16384 h.m):hdB h:=⟨by have:=hh.1;omega,λf hf=>by have:=ASH hf;have:=hh.2;omega⟩
def AkI{h:AH} (hh:Fok 16384 h.m) (name:B8):(AFC h name).1.length<=20000:=by have h1:=ATV name h.m;have h2:=AeT [44,32] (Ee name h.m);have h3:=AV6 name h.m;obtain⟨h4,h5⟩:=hh;unfold AFC;simp only[ae,aq]at h2⊢;omega
set_option maxHeartbeats 4000000 in theorem AaB{h:AH} (hh:Fok 16384 h.m){a:B8} (hb:a.length<=1000000) (hN:1000010<=N){lim:Int} (hl9:lim<=9223372036854775807):Ti N h a lim=H7 N h a lim/\∃r,H7 N h a lim=some r/\r.1.length<=a.length/\(r.2=0\/r.2=4\/r.2=142\/r.2=190\/r.2=191):=by
 unfold Ti H7;by_cases h0:lim<0;·rw[an (aC h0),an (aC h0)];exact⟨rfl,_,rfl,aM _,.inr (.inl rfl)⟩
 ·have hd:=AGQ hh;have hg1:=AkI hh [116,114,97,110,115,102,101,114,45,101,110,99,111,100,105,110,103];have hg2:=AkI hh [99,111,110,116,101,110,116,45,108,101,110,103,116,104];have hz:decide (lim<0)=false:=aF h0;simp only[hz,ap,aA];rw[Yt hd _ fO,Yt hd _ fO,Ob hd _ fO,Ob hd _ fO];generalize AFC h [116,114,97,110,115,102,101,114,45,101,110,99,111,100,105,110,103]=T at *;generalize AFC h [99,111,110,116,101,110,116,45,108,101,110,103,116,104]=L at *;obtain⟨r,c1,c2,c3,c4,c5⟩:=AKZ hb hN (lim:=lim) fM;have hlr:=AmR L.1;have wl:wr .u64 lim=lim:=Fw fM;have wa:wr .u64 (a.length:Int)=(a.length:Int):=Fw fM;simp only[AB,aa,lower_eq _ (show T.1.length<=2^60 by omega),P8 _ (show T.1.length<=2^60 by omega),Atm (show L.1.length<=1000000 by omega) hN,Acf (show L.1.length<=1000000 by omega) hN,c1,c2,wl,wa];generalize AB2 L.1=Z at *;have fin: ∃q:B8×Int,((if decide (Z.1>lim)=true then some (([]:B8),(142:Int))else if decide ((a.length:Int)<Z.1)=true then some ([],191)else(sub a 0 Z.1).bind λx19=>some (x19,0))=some q)/\q.1.length<=a.length/\(q.2=0\/q.2=4\/q.2=142\/q.2=190\/q.2=191):=by
   by_cases e1:Z.1>lim;·rw[an (aC e1)];exact⟨_,rfl,aM _,.inr (.inr (.inl rfl))⟩
   ·rw[aj (by simp only[au];exact e1)];by_cases e2:(a.length:Int)<Z.1;·rw[an (aC e2)];exact⟨_,rfl,aM _,.inr (.inr (.inr (.inr rfl)))⟩
    ·obtain⟨n,hn⟩: ∃n:Nat,Z.1=(n:Int):=⟨Z.1.toNat,fM⟩;have hs:=Av a 0 n fM fM;rw[aN,bw,show((0:Nat):Int)=0 from rfl]at hs;rw[aj (by simp only[au];exact e2),hn,hs];exact⟨_,rfl,by simp only[bb];omega,.inl rfl⟩
  have fin2: ∃q:B8×Int,((if decide ((a.length:Int)>lim)=true then some (([]:B8),(142:Int))else some (a,0))=some q)/\q.1.length<=a.length/\(q.2=0\/q.2=4\/q.2=142\/q.2=190\/q.2=191):=by
   split;·exact⟨_,rfl,aM _,.inr (.inr (.inl rfl))⟩
   ·exact⟨_,rfl,av _,.inl rfl⟩
  have bare: ∃q:B8×Int,some (([]:B8),(0:Int))=some q/\q.1.length<=a.length/\(q.2=0\/q.2=4\/q.2=142\/q.2=190\/q.2=191):=⟨_,rfl,aM _,.inl rfl⟩;have bad: ∃q:B8×Int,some (([]:B8),(190:Int))=some q/\q.1.length<=a.length/\(q.2=0\/q.2=4\/q.2=142\/q.2=190\/q.2=191):=⟨_,rfl,aM _,.inr (.inr (.inr (.inl rfl)))⟩;have ch:(if(r.2 !=0)=true then some (([]:B8),r.2)else some (r.1,0))=some (r.1,r.2):=by
   by_cases e:r.2=0;·rw[aj (by rw[e];decide),e]
   ·rw[an (by simpa using e),c5 e]
  obtain⟨q1,f1,f2,f3⟩:=fin;obtain⟨q2,g1,g2,g3⟩:=fin2;have rok:r.2=0\/r.2=4\/r.2=142\/r.2=190\/r.2=191:=fM;simp only[f1,g1,ch];generalize decide (h.l>=100)=b1;generalize decide (h.l<=199)=b2;generalize (h.l==204)=b3;generalize (h.l==304)=b4;generalize (List.map DL T.1==[99,104,117,110,107,101,100])=b5;generalize T.2=t2;generalize L.2=l2;generalize Z.2=z2;have e1: ∃q:B8×Int,some q1=some q/\q.1.length<=a.length/\(q.2=0\/q.2=4\/q.2=142\/q.2=190\/q.2=191):=⟨_,rfl,f2,f3⟩;have e2: ∃q:B8×Int,some q2=some q/\q.1.length<=a.length/\(q.2=0\/q.2=4\/q.2=142\/q.2=190\/q.2=191):=⟨_,rfl,g2,g3⟩;have e3: ∃q:B8×Int,some (r.1,r.2)=some q/\q.1.length<=a.length/\(q.2=0\/q.2=4\/q.2=142\/q.2=190\/q.2=191):=⟨_,rfl,c3,rok⟩;cases t2
  ·cases l2;·cases b1<;>cases b2<;>cases b3<;>cases b4<;>simp only[az,aA,ap,dW]<;>first|exact bare|exact e2
   ·cases z2<;>cases b1<;>cases b2<;>cases b3<;>cases b4<;>simp only[az,aA,ap,dW]<;>first|exact bare|exact bad|exact e1
  ·cases l2;·cases b5<;>cases b1<;>cases b2<;>cases b3<;>cases b4<;>simp only[az,aA,ap,bo,ba,dW]<;>first|exact bare|exact bad|exact e3
   ·cases b1<;>cases b2<;>cases b3<;>cases b4<;>simp only[az,aA,ap,dW]<;>first|exact bare|exact bad
end
section
variable{N:Nat}
def AMm (x:B8):(upT N x).length<=3 * x.length+1:=by grind[KO,UU,Ah,upT,List.length_cons]
def wS (xs:List B8):Nat:=(xs.map List.length).sum+xs.length
theorem S9 (x:B8) (xs:List B8):wS (x::xs)=x.length+1+wS xs:=by grind[wS]
def ZA (xs:List B8):wS (xs.drop 1)<=wS xs:=by cases xs with|nil=>simp|cons x xs=>rw[S9];simp only[dI,aN];omega
def VX (c:UInt8) (l:B8):wS (AV c l)=l.length+1:=AYb c _ l (av _)
def ACH: ∀xs:List B8,(xs.flatMap (upT N)).length<=3 * wS xs|[]=>by simp|x::xs=>by have:=AMm (N:=N) x;have:=ACH xs;rw[aR,ag,S9];omega
def Ye (hN:20000<=N) (k:Bool×B8×BY->Option (B8×BY)): ∀(xs:List B8) (d:Bool) (b:B8) (e:Int),b.length+3 * wS xs<=300000->A8 N k xs d b ⟨e⟩=k (d||!xs.isEmpty,b++xs.flatMap (upT N),⟨if xs.any (upB N)=true then 110 else e⟩)|[],d,b,e,_=>by rw[A8];simp|x::xs,d,b,e,h=>by have hu:=AMm (N:=N) x;rw[S9]at h;rw[A8,A1E _ _ fM hN,aa];dsimp only;rw[Q6 _ _ _ fM,aa];dsimp only;rw[Ye hN k xs _ _ _ (by rw[ag];omega),aR,bN,aJ];cases upB N x<;>cases xs.any (upB N)<;>simp
def Abf (xs:List B8) (e:Int) (h:wS xs<=100000) (hN:20000<=N):DU N xs ⟨e⟩=some (xs.flatMap (upT N),⟨if xs.any (upB N)=true then 110 else e⟩):=by
 unfold DU;dsimp only[AB];have:xs.length<=wS xs:=by unfold wS;omega
 rw[Ap fM,Ye hN _ _ _ _ _ fP];rfl
def RB:B8:=[47,46,119,101,108,108,45,107,110,111,119,110,47,100,105,100,46,106,115,111,110]
def AYK:B8:=[47,100,105,100,46,106,115,111,110]
def Ls (N:Nat) (xs:List B8):B8:=if xs=[]then RB else xs.flatMap (upT N)++AYK
def Gi (h:B8) (p:Int) (path:B8):As:=⟨h,p,path,[],[],false,false⟩
def toS (N:Nat) (d:AF):As×Int:=if((DJ N d).2 !=0)=true then(Ka,(DJ N d).2)else if((AV 58 d.u).drop 1).any (upB N)=true then(Ka,110)else if(Hw (Gi (DJ N d).1.d (DJ N d).1.g (Ls N ((AV 58 d.u).drop 1)))).length>4096 then(Ka,5)else(Gi (DJ N d).1.d (DJ N d).1.g (Ls N ((AV 58 d.u).drop 1)),0)
def Vm (d:AF):QC (DJ N d).1.g/\(DJ N d).1.d.length<=253:=by grind[DJ,QC,hp0,ADU,Y7]
def AC0 (xs:List B8):(Ls N xs).length<=3 * wS xs+21:=by
 have:=ACH (N:=N) xs;unfold Ls;split;·simp[RB]
 ·simp[AYK]at *;omega
def Abt{l:List B8} (h:l≠ []) (hb:l.length<=1000000):sub l 1 (l.length:Int)=some (l.drop 1):=by have:0<l.length:=bS.2 h;rw[show(1:Int)=((1:Nat):Int)from rfl,Av l 1 l.length fM (av _),bc fN]
def Acg (d:AF) (hm:d.i.length<=4096) (hi:d.u.length<=16000) (hN:20000<=N):M4 N d=some (toS N d):=by
 have hsl:=H5 58 d.u;have hne:=ES 58 d.u;have hw:=VX 58 d.u;have hw1:=ZA (AV 58 d.u);obtain⟨a1,a2⟩:=Vm (N:=N) d;have hpl:=AC0 (N:=N) ((AV 58 d.u).drop 1);unfold M4 toS;rw[AFp d hm hi hN,aa];by_cases h:((DJ N d).2 !=0)=true;·rw[an h,an h];rfl
 rw[aj h,aj h,Wq _ 58 fM];dsimp only[AB];rw[aa,Abt hne fM,aa];generalize (AV 58 d.u).drop 1=xs at *;have fin: ∀P:B8,P.length<=1000000->((Ev N (As.mk (DJ N d).1.d (DJ N d).1.g P [] [] false false)).bind λy12=>if(decide ((y12.length:Int)>4096))=true then(some ((As.mk [] 0 [] [] [] false false),5):Option (As×Int))else some ((As.mk (DJ N d).1.d (DJ N d).1.g P [] [] false false),0))=some (if(Hw (Gi (DJ N d).1.d (DJ N d).1.g P)).length>4096 then(Ka,5)else(Gi (DJ N d).1.d (DJ N d).1.g P,0)):=by
  intro P hP;rw[WI _ ⟨a1,by dsimp only;omega,by dsimp only;omega,fN,fN⟩ fM,aa];unfold Gi;split;·rename_i AX;rw[an (by simp only[au]at AX;omega)];rfl
  ·rename_i AX;rw[aj (by simp only[au]at AX;omega)]
 have hul:=ACH (N:=N) xs;cases xs with
 |nil=>rw[aj fO];exact fin RB fO
 | cons x xs=>
  rw[an fN,Abf _ _ fM hN,aa,Ap (by simp only[ag,ae,aq];omega),Ap (by simp only[ag,ae,aq];omega)];by_cases hb:(x::xs).any (upB N)=true;·rw[an hb,an hb];rfl
  ·rw[aj hb,aj hb];dsimp only;rw[aj fO];have e:((x::xs).flatMap (upT N)++[47])++[100,105,100,46,106,115,111,110]=Ls N (x::xs):=by unfold Ls AYK;rw[aj fN,aJ];rfl
   rw[<-e]at hpl;rw[fin _ fM,e]
theorem ATc (hN:20000<=N) (k:B8->Option (As×Int)): ∀(xs:List B8) (acc:B8),acc.length+3 * wS xs<=300000->G7 N k xs acc=if xs.any (upB N)=true then some (Ka,110)else k (acc++xs.flatMap (upT N))|[],acc,_=>by rw[G7];simp|x::xs,acc,h=>by have hu:=AMm (N:=N) x;have hd:=KO (N:=N) x;have he:=UU [] (Ah N x).1;rw[S9]at h;rw[G7,Py _ hN,aa];dsimp only[AB];rw[Vi _ _ fN fM];have ih:=ATc hN k xs (acc++([47]++(Ah N x).1.flatMap (M3 []))) (by simp only[ag,ae,aq];omega);have hg: ∀v:Option (As×Int),grd (AL (([47]:B8).length+((Ah N x).1.flatMap (M3 [])).length)) v=v:=λv=>Ap (by simp only[ae,aq];omega);have hg2: ∀v:Option (As×Int),grd (AL (acc.length+(([47]:B8)++(Ah N x).1.flatMap (M3 [])).length)) v=v:=λv=>Ap (by simp only[ag,ae,aq];omega);have hup:upT N x=[47]++(Ah N x).1.flatMap (M3 []):=rfl;rw[bN,aR,hup,<-aJ];rw[aa,hg,hg2,ih];unfold upB;cases ((Ah N x).1==[])<;>cases ((Ah N x).1==[46])<;>cases ((Ah N x).1==[46,46])<;>rfl
def AdI (d:AF) (hm:d.i.length<=4096) (hi:d.u.length<=16000) (hN:20000<=N):Ic N d=some (toS N d):=by
 have hsl:=H5 58 d.u;have hne:=ES 58 d.u;have hw:=VX 58 d.u;have hw1:=ZA (AV 58 d.u);obtain⟨a1,a2⟩:=Vm (N:=N) d;have hpl:=AC0 (N:=N) ((AV 58 d.u).drop 1);unfold Ic toS;rw[AFr d hm hi hN,aa];by_cases h1:(d.i==Lu)=false
 ·have e:DJ N d=(hp0,100):=by unfold DJ;rw[an h1]
  rw[an h1,e];rfl
 by_cases h2:((Oy (KN d)).2 !=0)=true
 ·have e:DJ N d=(hp0,(Oy (KN d)).2):=by unfold DJ;rw[aj h1,an h2]
  rw[aj h1,an h2,e];dsimp only;rw[an h2,an h2];rfl
 rw[aj h1,aj h2];dsimp only;by_cases h:((DJ N d).2 !=0)=true;·rw[an h,an h];rfl
 rw[aj h,aj h];dsimp only[AB];rw[Abt hne fM,aa];have hone:((((AV 58 d.u).length:Nat):Int)==1)=decide ((AV 58 d.u).drop 1=[]):=by
  have:0<(AV 58 d.u).length:=bS.2 hne;by_cases hq:(AV 58 d.u).drop 1=[];·have:=List.drop_eq_nil_iff.1 hq;rw[aC hq];simp;omega
  ·rw[aF hq];have: ¬(AV 58 d.u).length<=1:=λhh=>hq (List.drop_eq_nil_iff.2 hh);simp;omega
 rw[hone];generalize (AV 58 d.u).drop 1=xs at *;have hxl:xs.length<=wS xs:=by unfold wS;omega
 have hul:=ACH (N:=N) xs;rw[Ap fM,ATc hN _ _ _ fP];by_cases hb:xs.any (upB N)=true;·rw[an hb,an hb]
 rw[aj hb,aj hb,bl];have fin: ∀Q:B8,Q++AYK=Ls N xs->(grd (AL (Q.length+([47,100,105,100,46,106,115,111,110]:B8).length)) ((C8 N (As.mk (DJ N d).1.d (DJ N d).1.g (Q++([47,100,105,100,46,106,115,111,110]:B8)) [] [] false false)).bind λy12=>if(decide ((y12.length:Int)>4096))=true then(some ((As.mk [] 0 [] [] [] false false),5):Option (As×Int))else some ((As.mk (DJ N d).1.d (DJ N d).1.g (Q++([47,100,105,100,46,106,115,111,110]:B8)) [] [] false false),0)))=some (if(Hw (Gi (DJ N d).1.d (DJ N d).1.g (Ls N xs))).length>4096 then(Ka,5)else(Gi (DJ N d).1.d (DJ N d).1.g (Ls N xs),0)):=by
  intro Q hQ;change grd _ ((C8 N (As.mk (DJ N d).1.d (DJ N d).1.g (Q++AYK) [] [] false false)).bind λy12=>if(decide ((y12.length:Int)>4096))=true then(some ((As.mk [] 0 [] [] [] false false),5):Option (As×Int))else some ((As.mk (DJ N d).1.d (DJ N d).1.g (Q++AYK) [] [] false false),0))=_;have hl:=br List.length hQ;rw[ag]at hl;rw[Ap fP,hQ,Rz _ ⟨a1,by dsimp only;omega,by dsimp only;omega,fN,fN⟩ fM,aa];unfold Gi;split;·rename_i AX;rw[an (by simp only[au]at AX;omega)];rfl
  ·rename_i AX;rw[aj (by simp only[au]at AX;omega)]
 by_cases hq:xs=[];·subst hq;rw[an fN];exact fin [47,46,119,101,108,108,45,107,110,111,119,110] (by unfold Ls;rw[an rfl];rfl)
 ·rw[aj (by simpa using hq)];exact fin _ (by unfold Ls;rw[aj hq])
def Us:B8:=[104,116,116,112,115]
def AUV:NP Us:=by unfold NP;decide
def AEY (u:As):B8:=[47,47]++(hpF u.d u.g++(MO u++if u.f=true then [35]++u.a else []))
def AIk (u:As):Hw u=Us++58::AEY u:=by unfold Hw AEY Us;split<;>simp
def eqU (u v:As):Bool:=u.d==v.d&&(u.g==v.g&&(u.c==v.c&&(u.h==v.h&&(u.a==v.a&&(u.b==v.b&&u.f==v.f)))))
def Ay8{u v:As} (h:eqU u v=true):u=v:=by unfold eqU at h;simp only[aw,be]at h;cases u;simp_all
def MF (N:Nat) (u:As):Bool:=if((XI N Us (AEY u)).2==0)=true then eqU u (XI N Us (AEY u)).1 else false
def NY (u:As) (h:Um u) (hb:(Hw u).length<=1000000) (hN:20000<=N):Jz N u=some (MF N u):=by rw[AIk]at hb;unfold Jz MF;rw[WI u h fM,aa,AIk,Ac1 AUV hb hN,aa];split<;>rfl
def QX (u:As) (h:Um u) (hb:(Hw u).length<=1000000) (hN:20000<=N):Kh N u=some (MF N u):=by rw[AIk]at hb;unfold Kh MF;rw[Rz u h fM,aa,AIk,Ab8 AUV hb hN,aa];split<;>rfl
def Sw (c:UInt8):Bool:=c==37||Eh c
def XE (N:Nat) (x:B8):Bool:=!(x.all Sw)||(Ah N x).1==[]
def OP (N:Nat) (x:B8):B8:=58::(Ah N x).1.flatMap I7
def AAr (k:Int->Option (B8×BY)): ∀(l:B8) (e:Int),Cw N k l e=k (if l.all Sw=true then e else 110)
 |[],e=>by rw[Cw];rfl
 |c::l,e=>by
  rw[Cw];dsimp only[AB];rw[ZB,aa,AAr k l,AAr k l,aQ];have h37:(AJ c !=37)=!(c==37):=by unfold bne;rw[TU];rfl
  rw[h37];unfold Sw;cases (c==37)<;>cases Eh c<;>cases l.all (λc=>c==37||Eh c)<;>rfl
def Aem (l:B8):(l.flatMap (M3 [])).flatMap (ABm [37,55,69] 126)=l.flatMap I7:=by rw[List.flatMap_assoc];congr 1;funext b;exact Apy b
def AwJ (e:Int) (x:B8) (hb:x.length<=100000) (hN:20000<=N):JA N ⟨e⟩ x=some (OP N x,⟨if XE N x=true then 110 else e⟩):=by
 have hd:=KO (N:=N) x;have he:=UU [] (Ah N x).1;have hf:=UF (f:=I7) (n:=3) (λb=>(Pg b).1) (Ah N x).1;have hg: ∀v:Option (B8×BY),grd (AL (([58]:B8).length+((Ah N x).1.flatMap I7).length)) v=v:=λv=>Ap (by simp only[ae,aq];omega);unfold JA XE OP;dsimp only[AB];rw[Ap fM,AAr,SI _ hN,aa,YQ _ _ fM];simp only[aa];rw[TI _ _ _ rfl fM,Aem];simp only[aa,hg];by_cases h:((Ah N x).2 !=0)=true;·rw[an h,ASC hN h];cases x.all Sw<;>rfl
 ·rw[aj h];cases ((Ah N x).1==[])<;>cases x.all Sw<;>rfl
def AAR (x:B8):(OP N x).length<=3 * x.length+1:=by have hd:=KO (N:=N) x;have hf:=UF (f:=I7) (n:=3) (λb=>(Pg b).1) (Ah N x).1;grind[OP]
def AAJ: ∀xs:List B8,(xs.flatMap (OP N)).length<=3 * wS xs|[]=>by simp|x::xs=>by have:=AAR (N:=N) x;have:=AAJ xs;rw[aR,ag,S9];omega
def Vo (hN:20000<=N) (k:Bool×B8×BY->Option (B8×BY)): ∀(xs:List B8) (d:Bool) (b:B8) (e:Int),b.length+3 * wS xs<=300000->Au N k xs d b ⟨e⟩=k (d||!xs.isEmpty,b++xs.flatMap (OP N),⟨if xs.any (XE N)=true then 110 else e⟩)|[],d,b,e,_=>by rw[Au];simp|x::xs,d,b,e,h=>by have hu:=AAR (N:=N) x;rw[S9]at h;rw[Au,AwJ _ _ fM hN,aa];dsimp only;rw[Q6 _ _ _ fM,aa];dsimp only;rw[Vo hN k xs _ _ _ (by rw[ag];omega),aR,bN,aJ];cases XE N x<;>cases xs.any (XE N)<;>simp
def AKi (xs:List B8) (e:Int) (h:wS xs<=100000) (hN:20000<=N):CO N xs ⟨e⟩=some (xs.flatMap (OP N),⟨if xs.any (XE N)=true then 110 else e⟩):=by
 unfold CO;dsimp only[AB];have:xs.length<=wS xs:=by unfold wS;omega
 rw[Ap fM,Vo hN _ _ _ _ _ fP];rfl
def ACx:B8:=[100,105,100,46,106,115,111,110]
def idA (h:B8) (p:Int):B8:=if p=0 then h else h++([37,51,65]++fmtS p.toNat)
def Acs (h:B8) (p:Int):(idA h p).length<=h.length+23:=by grind[Tt,idA,List.length_append,List.length_cons,List.length_nil]
def V6 (N:Nat) (h:B8) (p:Int) (path:B8) (L:List B8):AF×Int:=if(L.getLast?==some ACx)=false then(Px,6)else if L.length=1 then(Px,110)else if path=RB then(if(KN ⟨Lu,idA h p⟩).length>4096 then(Px,5)else(⟨Lu,idA h p⟩,0))else if L.dropLast.any (XE N)=true then(Px,110)else if(KN ⟨Lu,idA h p++L.dropLast.flatMap (OP N)⟩).length>4096 then(Px,5)else(⟨Lu,idA h p++L.dropLast.flatMap (OP N)⟩,0)
def ZT (N:Nat) (u:As):AF×Int:=if MF N u=true then V6 N u.d u.g u.c ((AV 47 u.c).drop 1)else(Px,8)
def A3L{β:Type} (h:B8) (p:Int) (hp:QC p) (hb:h.length<=1000000) (hN:20<=N) (k:B8->Option β):(if(p !=0)=true then(Fu N (wr .u64 p)).bind λy15=>grd (AL (([37,51,65]:B8).length+y15.length)) (grd (AL (h.length+(([37,51,65]:B8)++y15).length)) (k (h++(([37,51,65]:B8)++y15))))else k h)=k (idA h p):=by
 have hl:=Tt p.toNat;obtain⟨h1,h2⟩:=hp;unfold idA;by_cases h0:p=0;·grind
 ·rw[an (by grind),aj h0];have e:wr .u64 p=((p.toNat:Nat):Int):=by rw[Fw fM];omega
  simp only[e];rw[ADs p.toNat fM hN,aa,Ap (by simp only[ag,ae,aq];omega),Ap (by simp only[ag,ae,aq];omega)]
def A3x{β:Type} (h:B8) (p:Int) (hp:QC p) (hb:h.length<=1000000) (hN:20<=N) (k:B8->Option β):(if(p !=0)=true then(Bp N p).bind λy15=>grd (AL (([37,51,65]:B8).length+y15.length)) (grd (AL (h.length+(([37,51,65]:B8)++y15).length)) (k (h++(([37,51,65]:B8)++y15))))else k h)=k (idA h p):=by
 have hl:=Tt p.toNat;obtain⟨h1,h2⟩:=hp;unfold idA Bp;by_cases h0:p=0;·grind
 ·rw[an (by grind),aj h0,aj (by grind)];have e:wr .u64 p=((p.toNat:Nat):Int):=by rw[Fw fM];omega
  simp only[e];rw[ADr p.toNat fM hN,aa,aa,Ap (by simp only[ag,ae,aq];omega),Ap (by simp only[ag,ae,aq];omega)]
def AGa{l:List B8} (hne:l≠ []) (hb:l.length<=1000000): ∃y,l.getLast?=some y/\idx l (wr .i64 ((l.length:Int)-1))=some y:=⟨l.getLast hne,cd hne,AFq hne hb⟩
def AUJ{l:List B8} (hne:l≠ []) (hb:l.length<=1000000):sub l 0 (wr .i64 ((l.length:Int)-1))=some l.dropLast:=by have:0<l.length:=bS.2 hne;rw[show wr .i64 ((l.length:Int)-1)=((l.length-1:Nat):Int) by grind[Ak],show(0:Int)=((0:Nat):Int)from rfl,Av l 0 (l.length-1) fM fM,aN,bw,List.dropLast_eq_take]
def Vd: ∀xs:List B8,wS xs.dropLast<=wS xs|[]=>av _|[x]=>by simp[wS]|x::y::xs=>by have:=Vd (y::xs);grind[List.dropLast_cons_cons,S9]
theorem Aoi (h:B8) (p:Int) (path:B8) (hu:Um (Gi h p path)) (hh:h.length<=1000) (hp:path.length<=5000) (hL:(AV 47 path).drop 1≠ []) (hN:20000<=N):MZ N (Gi h p path)=some (ZT N (Gi h p path)):=by
 have hpt:=hu.1;have hF:(Hw (Gi h p path)).length<=1000000:=by have:=WU h p;have ht:MO (Gi h p path)=path:=rfl;have he:Hw (Gi h p path)=([104,116,116,112,115,58,47,47]++hpF h p)++path:=rfl;rw[he];simp only[ag,ae,aq];omega
 have hw:=VX 47 path;have hw1:=ZA (AV 47 path);have hsl:=H5 47 path;have hne:=ES 47 path;unfold MZ ZT;rw[NY _ hu hF hN,aa];by_cases hv:MF N (Gi h p path)=true;rotate_left;·rw[aj hv,aj hv];rfl
 rw[an hv,an hv];change Option.bind (strings_Split N path [47]) _=some (V6 N h p path ((AV 47 path).drop 1));rw[Wq _ 47 fM,aa,Abt hne fM];rw[aa];generalize (AV 47 path).drop 1=L at *;have hLl:L.length<=wS L:=by unfold wS;omega
 obtain⟨y,hy1,hy2⟩:=AGa hL fM;dsimp only[AB];change Option.bind (idx L (wr .i64 ((L.length:Int)-1))) (λx10=>if(!(x10==ACx))=true then some (Px,(6:Int))else _)=_;rw[hy2,aa];unfold V6;rw[hy1];by_cases hd:y=ACx;rotate_left;·rw[an (by simpa using hd),an (by simpa using hd)]
 rw[aj (show¬(!(y==ACx))=true by simp[hd]),aj (show¬(some y==some ACx)=false by simp[hd])];by_cases h1:L.length=1;·rw[an (show((L.length:Int)==1)=true by simp[h1]),an h1];rfl
 rw[aj (show¬((L.length:Int)==1)=true by simp;omega),aj h1];have hid:=Acs h p;have hdl:=AAJ (N:=N) L.dropLast;have hwl:=Vd L;have fin: ∀I:B8,I.length<=100000->((Ct N (AF.mk ([119,101,98]:B8) I)).bind λy24=>if(decide ((y24.length:Int)>4096))=true then(some ((AF.mk [] []),5):Option (AF×Int))else some ((AF.mk ([119,101,98]:B8) I),0))=some (if(KN ⟨Lu,I⟩).length>4096 then(Px,5)else(⟨Lu,I⟩,0)):=by
  intro I hI;rw[Y0 _ ⟨fN,by dsimp only;omega⟩,aa];change (if decide (((KN ⟨Lu,I⟩).length:Int)>4096)=true then _ else _)=_;split;·rename_i AX;rw[an (by simp only[au]at AX;omega)];rfl
  ·rename_i AX;rw[aj (by simp only[au]at AX;omega)];rfl
 refine(A3L (N:=N) h p hpt fM fM (λJ=>if(path==RB)=true then((Ct N (AF.mk ([119,101,98]:B8) J)).bind λy24=>if(decide ((y24.length:Int)>4096))=true then some ((AF.mk [] []),5)else some ((AF.mk ([119,101,98]:B8) J),0))else(sub L 0 (wr .i64 ((L.length:Int)-1))).bind λx21=>(CO N x21 (BY.mk 0)).bind λy22=>grd (AL (J.length+y22.1.length)) (if(y22.2.e !=0)=true then some ((AF.mk [] []),y22.2.e)else((Ct N (AF.mk ([119,101,98]:B8) (J++y22.1))).bind λy24=>if(decide ((y24.length:Int)>4096))=true then some ((AF.mk [] []),5)else some ((AF.mk ([119,101,98]:B8) (J++y22.1)),0))))).trans ?_;change (if(path==RB)=true then _ else _)=_;by_cases hr:path=RB;·rw[an (by simpa using hr),an hr];exact fin (idA h p) fM
 rw[aj (by simpa using hr),aj hr,AUJ hL fM,aa,AKi _ _ fM hN,aa,Ap (by dsimp only;omega)];by_cases hb:L.dropLast.any (XE N)=true;·rw[an hb,an hb];rfl
 ·rw[aj hb,aj hb];dsimp only;rw[aj fO];exact fin _ (by rw[ag];omega)
def ASB (b r:B8):B8:=match RI b b.length with|some i=>b.take (i+1)++r|none=>r
def Zp (a b:AT):B8:=if(a.j&&(a.c==[]))=true then 47::b.c else ASB a.c b.c
theorem Ani (b r:B8):(ASB b r).length<=b.length+r.length:=by grind[ASB]
def AEC (a b:AT):(Zp a b).length<=a.c.length+b.c.length+1:=by grind[Zp,Ani]
def Adw (a b:AT) (ha:a.c.length<=100000) (hb:b.c.length<=100000) (hN:1000000<=N):UA N a b=some (if preB [47] b.c=true then b.c else Zp a b):=by
 unfold UA Zp;rw[Ww,aa];by_cases h:preB [47] b.c=true;·grind
 rw[aj h,aj h];refine(KD (a:=a.j&&(a.c==[])) λk=>by cases a.j<;>rfl).trans ?_;by_cases h2:(a.j&&(a.c==[]))=true;·rw[an h2,an h2,Ap (by grind)];rfl
 rw[aj h2,aj h2,AGO _ fM fM,aa];unfold ASB;cases h3:RI a.c a.c.length with|none=>dsimp only;rw[show sub a.c 0 (wr .i64 ((-1:Int)+1))=some []from by rw[show wr .i64 ((-1:Int)+1)=((0:Nat):Int)from rfl,show(0:Int)=((0:Nat):Int)from rfl,Av _ 0 0 (av _) (aM _)];simp,aa,Ap (by grind)];rfl|some i=>have:=ZP h3;dsimp only;rw[show wr .i64 ((i:Int)+1)=((i+1:Nat):Int) by grind[Ak],show(0:Int)=((0:Nat):Int)from rfl,Av _ 0 _ (aM _) fM,aa,aN,bw,Ap (by grind)]
def ABX{a b:AT} (ha:a.c.length<=100000) (hb:b.c.length<=100000): ∀(n k:Nat),n<=a.c.length->n<k->GI N a b (λ_=>some b.c) k ((n:Int)-1)=some (match RI a.c n with|some i=>a.c.take (i+1)++b.c|none=>b.c)
 |n,0,_,h=>by omega
 |0,k+1,_,_=>by rw[GI,aj fO];rfl
 |n+1,k+1,hn,hk=>by
  rw[GI,an fN,show((n+1:Nat):Int)-1=(n:Int) by omega,D7,aS fM,aa,b47,RI,aS fM];by_cases h:a.c[n]=47;·rw[aC h,an rfl,an (by rw[h]),show wr .i64 ((n:Int)+1)=((n+1:Nat):Int) by grind[Ak],show(0:Int)=((0:Nat):Int)from rfl,Av _ 0 _ (aM _) fM,aa,aN,bw,Ap (by grind)]
  ·rw[aF h,aj fO,aj (by grind),Ak fM];exact ABX ha hb n k fM fM
def AYZ (a b:AT) (ha:a.c.length<=100000) (hb:b.c.length<=100000) (hN:1000000<=N):O0 N a b=some (Zp a b):=by
 unfold O0 Zp ASB;refine(KD (a:=a.j&&(a.c==[])) λk=>by cases a.j<;>rfl).trans ?_;by_cases h2:(a.j&&(a.c==[]))=true;·rw[an h2,an h2,Ap (by grind)];rfl
 rw[aj h2,aj h2,AB,Ak fM,ABX ha hb a.c.length N (av _) fM]
def AEx (N:Nat) (a b:AT):AT:=if b.s=true then⟨b.t,b.k,Ll N b.c [],b.h,b.a,b.s,b.j,b.b,b.f⟩else if b.j=true then⟨a.t,b.k,Ll N b.c [],b.h,b.a,a.s,b.j,b.b,b.f⟩else if(b.c==[])=true then if b.b=true then⟨a.t,a.k,a.c,b.h,b.a,a.s,a.j,b.b,b.f⟩else⟨a.t,a.k,a.c,a.h,b.a,a.s,a.j,a.b,b.f⟩else⟨a.t,a.k,Ll N (if preB [47] b.c=true then b.c else Zp a b) [],b.h,b.a,a.s,a.j,b.b,b.f⟩
def AtF (a b:AT) (h:a.c.length+b.c.length<=36000) (hN:1000000<=N):Qq N a b=some (AEx N a b):=by
 unfold Qq AEx;have ml:=AEC a b;dsimp only[AB];cases h1:b.s;rotate_left;·rw[an rfl,an rfl,ADm _ fM fM,aa]
 simp only[ap,aA];cases h2:b.j;rotate_left;·simp only[az];rw[ADm _ fM fM,aa]
 simp only[ap,aA];by_cases h3:(b.c==[])=true;·simp only[h3,az];cases b.b<;>rfl
 simp only[aj h3];rw[Adw a b fM fM hN,aa,ADm _ fM (by split<;>omega),aa]
def A12{c:UInt8}{t:B8}:preB [47] (c::t)=(c==47):=by grind[preB]
def Awe (a b:AT) (h:a.c.length+b.c.length<=36000) (hN:1000000<=N):NR N a b=some (AEx N a b):=by
 unfold NR AEx;have ml:=AEC a b;dsimp only[AB];cases h1:b.s;rotate_left;·rw[an rfl,an rfl,ZI _ fM fM,aa]
 simp only[ap,aA];cases h2:b.j;rotate_left;·simp only[az];rw[ZI _ fM fM,aa]
 simp only[ap,aA];by_cases h3:(b.c==[])=true;·simp only[h3,az];cases b.b<;>rfl
 simp only[aj h3];rw[AYZ a b fM fM hN,aa,ZI _ fM fM,aa];cases hp:b.c with
 |nil=>simp_all
 |cons c t=>
  rw[show idx (c::t) 0=some c from rfl,aa,b47,A12];by_cases h4:c=47;·rw[aC h4,an rfl,an (by grind),ZI _ fM (by grind),aa]
  simp_all
def AY7 (u:AT):B8:=(((((if u.s=true then u.t++[58]else [])++(if u.j=true then [47,47]++u.k else []))++u.c)++(if u.b=true then [63]++u.h else []))++(if u.f=true then [35]++u.a else []))
def uB (u:AT) (n:Nat):Prop:=u.t.length<=n/\u.k.length<=n/\u.c.length<=n/\u.h.length<=n/\u.a.length<=n
def Zq (f:Bool) (x y:B8) (d:Bool) (b:B8) (h:b.length+x.length+y.length<=1000000000): ∃d',JI N f [x,y] ⟨d,b⟩=some ⟨d',b++(if f=true then x++y else [])⟩:=by
 unfold JI;rw[Ap fN];cases f;·refine⟨d,?_⟩;simp only[IX,AB,ap,aA,bm]
 ·refine⟨true,?_⟩;simp only[IX,AB,az];rw[Q6 _ _ _ fM,aa,Q6 _ _ _ (by rw[ag];omega),aa,aJ]
def AiB (x:B8) (d:Bool) (b:B8) (h:b.length+x.length<=1000000000):JI N true [x] ⟨d,b⟩=some ⟨true,b++x⟩:=by unfold JI;rw[Ap fN];simp only[IX,AB,az];rw[Q6 _ _ _ fM,aa]
def AHT (u:AT) (h:uB u 1000000):VD N u=some (AY7 u):=by
 obtain⟨h1,h2,h3,h4,h5⟩:=h;unfold VD letL AY7;dsimp only;obtain⟨d1,e1⟩:=Zq (N:=N) u.s u.t [58] false [] (by grind);rw[e1,aa,bl];generalize hA:(if u.s=true then u.t++[58]else [])=A;have lA:A.length<=1000001:=by grind
 obtain⟨d2,e2⟩:=Zq (N:=N) u.j [47,47] u.k d1 A (by grind);rw[e2,aa];generalize hB:(if u.j=true then [47,47]++u.k else [])=B;have lB:B.length<=1000002:=by grind
 rw[AiB _ _ _ (by grind),aa];obtain⟨d3,e3⟩:=Zq (N:=N) u.b [63] u.h true ((A++B)++u.c) (by grind);rw[e3,aa];generalize hC:(if u.b=true then [63]++u.h else [])=C;have lC:C.length<=1000001:=by grind
 obtain⟨d4,e4⟩:=Zq (N:=N) u.f [35] u.a d3 (((A++B)++u.c)++C) (by grind);rw[e4,aa];rfl
def Aki (u:AT) (h:uB u 1000000):Rt N u=some (AY7 u):=by
 obtain⟨h1,h2,h3,h4,h5⟩:=h;unfold Rt AY7;generalize hA:(if u.s=true then u.t++[58]else [])=A;have lA:A.length<=1000001:=by grind
 refine(KD (a:=A) λk=>?_).trans ?_;·grind[Ap]
 generalize hB:(if u.j=true then [47,47]++u.k else [])=B;have lB:B.length<=1000002:=by grind
 refine(KD (a:=A++B) λk=>?_).trans ?_
 ·rw[<-hB];split;·rw[Ap fP,Ap fP]
  ·rw[bm]
 rw[Ap (by grind)];generalize hC:(if u.b=true then [63]++u.h else [])=C;have lC:C.length<=1000001:=by grind
 refine(KD (a:=((A++B)++u.c)++C) λk=>?_).trans ?_
 ·rw[<-hC];split;·rw[Ap fP,Ap (by simp only[ag,ae,aq];omega)]
  ·rw[bm]
 refine(KD (a:=(((A++B)++u.c)++C)++(if u.f=true then [35]++u.a else [])) λk=>?_).trans rfl;split;·rw[Ap fP,Ap (by simp only[ag,ae,aq];omega)]
 ·rw[bm]
def AcT{u:AT}{n:Nat} (h:uB u n):(AY7 u).length<=5 * n+6:=by obtain⟨h1,h2,h3,h4,h5⟩:=h;unfold AY7;simp only[ag];grind
def Abz{a b:AT}{n:Nat} (ha:uB a n) (hb:uB b n):uB (AEx N a b) (2 * n+1):=by
 obtain⟨a1,a2,a3,a4,a5⟩:=ha;obtain⟨b1,b2,b3,b4,b5⟩:=hb;have ml:=AEC a b;have d1:=PP N b.c [];have d2:=PP N (if preB [47] b.c=true then b.c else Zp a b) [];have d3:(if preB [47] b.c=true then b.c else Zp a b).length<=2 * n+1:=by split<;>omega
 grind[AEx,uB]
def APP (N:Nat) (a:As) (r:B8):As×Int:=if MF N a=true then if((OH r).2 !=0)=true then(Ka,(OH r).2)else if((AEx N (OH (Hw a)).1 (OH r).1).t.map DL==List.map DL [104,116,116,112,115])=true then AE4 N (AY7 (AEx N (OH (Hw a)).1 (OH r).1))else(Ka,253)else(Ka,8)
def AOi{s:B8}{n:Nat} (h:s.length<=n):uB (OH s).1 n:=by obtain⟨l1,l2,l3,l4,l5⟩:=TH s;exact⟨fM,fM,fM,fM,fM⟩
def AwP (a:As) (r:B8) (h:Um a) (hw:(Hw a).length<=5000) (hr:r.length<=20000) (hN:1000000<=N):LH N a r=some (APP N a r):=by
 unfold LH APP;rw[NY a h fM fM,aa];cases MF N a;·rfl
 simp only[az];rw[WI a h fM,aa,UV _ fM fM,aa,UV _ fM fM,aa];by_cases h2:((OH r).2 !=0)=true;·rw[an h2,an h2];rfl
 rw[aj h2,aj h2];have u1:=AOi (s:=Hw a) (n:=20000) fM;have u2:=AOi (s:=r) (n:=20000) hr;have p1:=(TH (Hw a)).2.1;have p2:=(TH r).2.1;rw[AtF _ _ fM hN,aa];have u3:=Abz (N:=N) u1 u2;generalize AEx N (OH (Hw a)).1 (OH r).1=U at *;rw[UC _ _ (by have:=u3.1;omega) fO,aa];cases (U.t.map DL==List.map DL [104,116,116,112,115]);·rfl
 simp only[az];have j:=AcT u3;rw[AHT U ⟨by have:=u3.1;omega,by have:=u3.2.1;omega,by have:=u3.2.2.1;omega,by have:=u3.2.2.2.1;omega,by have:=u3.2.2.2.2;omega⟩,aa,AS8 _ fM fM,aa]
def AvC (a:As) (r:B8) (h:Um a) (hw:(Hw a).length<=5000) (hr:r.length<=20000) (hN:1000000<=N):Mq N a r=some (APP N a r):=by
 unfold Mq APP;rw[QX a h fM fM,aa];cases MF N a;·rfl
 simp only[az];rw[Rz a h fM,aa,Xg _ fM,aa,Xg _ fM,aa];by_cases h2:((OH r).2 !=0)=true;·rw[an h2,an h2];rfl
 rw[aj h2,aj h2];have u1:=AOi (s:=Hw a) (n:=20000) fM;have u2:=AOi (s:=r) (n:=20000) hr;have p1:=(TH (Hw a)).2.1;have p2:=(TH r).2.1;rw[Awe _ _ fM hN,aa];have u3:=Abz (N:=N) u1 u2;generalize AEx N (OH (Hw a)).1 (OH r).1=U at *;rw[Tz _ _ (by have:=u3.1;omega) fO,aa];cases (U.t.map DL==List.map DL [104,116,116,112,115]);·rfl
 simp only[az];have j:=AcT u3;rw[Aki U ⟨by have:=u3.1;omega,by have:=u3.2.1;omega,by have:=u3.2.2.1;omega,by have:=u3.2.2.2.1;omega,by have:=u3.2.2.2.2;omega⟩,aa,ATa _ fM fM,aa]
theorem AzM (U:AT) (h:U.c.length<=100000/\U.h.length<=100000/\U.a.length<=100000):Um (AAx N U).1/\(Hw (AAx N U).1).length<=4096:=by
 have z:Um Ka/\(Hw Ka).length<=4096:=⟨⟨⟨bE _,fO⟩,fO,fO,fO,fO⟩,fO⟩;have q1:=ADU U.k;have q2:=Y7 U.k;have n1:=Jo (N:=N) U.c inP;have n2:=Jo (N:=N) U.h inQ;have n3:=Jo (N:=N) U.a inQ;have pl:=Yh (N:=N) (De N U.c inP).1;unfold AAx;split;·exact z
 split;·exact z
 split;·exact z
 split;·exact z
 split;·exact z
 split;·exact z
 split;·exact z
 ·rename_i hl;exact⟨⟨q1,by grind,by grind,by grind,by grind⟩,by grind⟩
theorem Ayp (s:B8):Um (AE4 N s).1/\(Hw (AE4 N s).1).length<=4096:=by have z:Um Ka/\(Hw Ka).length<=4096:=⟨⟨⟨bE _,fO⟩,fO,fO,fO,fO⟩,fO⟩;grind[AE4,TH,AzM]
def Aze (a:As) (r:B8):Um (APP N a r).1/\(Hw (APP N a r).1).length<=4096:=by have z:Um Ka/\(Hw Ka).length<=4096:=⟨⟨⟨bE _,fO⟩,fO,fO,fO,fO⟩,fO⟩;grind[APP,Ayp]
def K9 (u:As):Prop:=Um u/\(Hw u).length<=4096
def ABJ:K9 Ka:=⟨⟨⟨bE _,fO⟩,fO,fO,fO,fO⟩,fO⟩
def TM (u:As):As:=⟨u.d,u.g,u.c,u.h,[],u.b,false⟩
theorem AGx{u:As} (h:K9 u):K9 (TM u):=by
 obtain⟨⟨h1,h2,h3,h4,h5⟩,h6⟩:=h;refine⟨⟨h1,h2,h3,h4,aM _⟩,?_⟩;have e1:Hw (TM u)=([104,116,116,112,115,58,47,47]++hpF u.d u.g)++MO u:=rfl;have e2:(([104,116,116,112,115,58,47,47]++hpF u.d u.g)++MO u).length<=(Hw u).length:=by
  unfold Hw;split;·rw[ag (as:=([104,116,116,112,115,58,47,47]++hpF u.d u.g)++MO u)];omega
  ·exact av _
 rw[e1];omega
def Sc (a b:As):Bool:=a.d==b.d&&(a.g==b.g&&(a.c==b.c&&(a.h==b.h&&(a.a==b.a&&(a.b==b.b&&a.f==b.f)))))
def Ue{α:Type} [BEq α] [LawfulBEq α] (a b:α):(a==b)=(b==a):=by
 by_cases h:a=b;·subst h;rfl
 ·rw[bB.2 h,bB.2 (dO h)]
def AfM (a b:As):Sc a b=Sc b a:=by unfold Sc;rw[Ue a.d,Ue a.g,Ue a.c,Ue a.h,Ue a.a,Ue a.b,Ue a.f]
def Aqe (s:Int):F8 N s=Gn N s/\∃b,Gn N s=some b:=by
 unfold F8 Gn;simp only[AB];by_cases h1:s=301;·subst h1;exact⟨rfl,_,rfl⟩
 by_cases h2:s=302;·subst h2;exact⟨rfl,_,rfl⟩
 by_cases h3:s=303;·subst h3;exact⟨rfl,_,rfl⟩
 by_cases h4:s=307;·subst h4;exact⟨rfl,_,rfl⟩
 by_cases h5:s=308;·subst h5;exact⟨rfl,_,rfl⟩
 have e1:(s==301)=false:=bB.2 h1;have e2:(s==302)=false:=bB.2 h2;have e3:(s==303)=false:=bB.2 h3;have e4:(s==307)=false:=bB.2 h4;have e5:(s==308)=false:=bB.2 h5;simp only[e1,e2,e3,e4,e5,ap,aA];by_cases g:s>=301;·rw[an (aC g),aj (by simp only[au];omega)];exact⟨rfl,_,rfl⟩
 ·rw[aj (by simp only[au];exact g)];exact⟨rfl,_,rfl⟩
def AGz (u:As) (k2:Unit->Option Int) (hk:k2 ()=some (-1)): ∀(l:List As) (i:Int),0<=i->∃r,Bf N u k2 l i=some r/\decide (r>=0)=l.any (Sc u)
 |[],i,_=>⟨-1,hk,rfl⟩
 |x::l,i,hi=>by
  rw[Bf,bN];show∃r,(if Sc u x=true then some i else _)=some r/\_;cases h:Sc u x;·obtain⟨r,h1,h2⟩:=AGz u k2 hk l (i+1) fM;exact⟨r,h1,by simpa using h2⟩
  ·exact⟨i,rfl,by simpa using hi⟩
def Am9 (u:As) (l:List As) (hl:l.length<=1000000):Cv N l u=some (l.any (Sc u)):=by unfold Cv FB;rw[AB,Ap fM];obtain⟨r,h1,h2⟩:=AGz (N:=N) u (λ_=>some (-1)) rfl l 0 (bE _);rw[h1,aa,h2]
def AC9 (u:As) (k14:Unit->Option (As×Int)): ∀l:List As,J8 N u k14 l=if l.any (Sc u)=true then some (Ka,251)else k14 ()|[]=>rfl|x::l=>by rw[J8,bN,AC9 u k14 l];show(if Sc x u=true then _ else _)=_;rw[AfM x u];cases Sc u x<;>rfl
def Alr{name v:B8}{fs:List AG} (h:v∈Ee name fs):v.length<=EQ fs:=by unfold Ee at h;obtain⟨f,hf,rfl⟩:=bv.1 h;have:=ASH (List.mem_filter.1 hf).1;omega
theorem AZL{u:As} (hu:K9 u){h:AH} (hh:Fok 16384 h.m){l:List As} (hl:l.length<=1000000) (c:Int) (hN:1000010<=N):NU N u h l c=OL N u h l c/\∃r,OL N u h l c=some r/\K9 r.1:=by
 unfold NU OL;by_cases h5:c>=5;·rw[an (aC h5),an (aC h5)];exact⟨rfl,_,rfl,ABJ⟩
 ·have hd:=AGQ hh;have e5:decide (c>=5)=false:=aF h5;simp only[e5,ap,aA];rw[ASk hd _ fO,ARh hd _ fO,aa,aa];have hv: ∀v,v∈Ee [108,111,99,97,116,105,111,110] h.m->v.length<=16384:=λv hv=>by have:=Alr hv;have:=hh.2;omega
  generalize Ee [108,111,99,97,116,105,111,110] h.m=V at *;match V,hv with
  |[],_=>exact⟨rfl,_,rfl,ABJ⟩
  |x::y::t,_=>
   have e:((((x::y::t:List B8).length:Nat):Int) !=1)=true:=by simp;omega
   rw[an e,an e];exact⟨rfl,_,rfl,ABJ⟩
  | [v],hv=>
   have hvl:=hv v (.head _);have e:(((([v]:List B8).length:Nat):Int) !=1)=false:=rfl;have hi:idx [v] 0=some v:=rfl;have hg:K9 (APP N u v).1:=Aze u v;simp only[e,ap,aA,AB,hi,aa];rw[AwP u v hu.1 (by have:=hu.2;omega) fM fM,AvC u v hu.1 (by have:=hu.2;omega) fM fM,aa,aa];generalize APP N u v=R at *;unfold Pt;have hb:=AGx hg;simp only[aa];rw[Ap fM,Am9 _ _ hl,AC9,aa];cases h1:R.2==253
   ·cases h2:R.2 !=0
    ·simp only[ap,aA];show((if l.any (Sc (TM R.1))=true then _ else _)=(if l.any (Sc (TM R.1))=true then _ else _))/\_;cases h3:l.any (Sc (TM R.1));·exact⟨rfl,(TM R.1,0),by show(if l.any (Sc (TM R.1))=true then _ else _)=_;rw[h3];rfl,hb⟩
     ·exact⟨rfl,(Ka,251),by show(if l.any (Sc (TM R.1))=true then _ else _)=_;rw[h3];rfl,ABJ⟩
    ·exact⟨rfl,_,rfl,ABJ⟩
   ·exact⟨rfl,_,rfl,ABJ⟩
end
end Go.VM
