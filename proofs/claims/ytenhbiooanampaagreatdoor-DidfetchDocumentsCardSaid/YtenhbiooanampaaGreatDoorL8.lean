import Derived.Test.YtenhbiooanampaaGreatDoorL7
set_option linter.defProp false
set_option linter.unusedVariables false
set_option linter.unusedSimpArgs false
namespace Go.VM
section
variable{N:Nat}
def AmW (k:Unit->Option (ApiDID×Int)): ∀l:B8,FC N k l=if l.all Rt=true then k ()else some (O8,110)
 |[]=>by rw[FC];rfl
 |c::l=>by
  rw[FC];dsimp only[AB];rw[AA3,aa,AmW k l,aQ];have h37:(AJ c !=37)=!(c==37):=by unfold bne;rw[TR];rfl
  rw[h37];unfold Rt;cases (c==37)<;>cases FY c<;>cases l.all (λc=>c==37||FY c)<;>rfl
theorem WN (hN:20000<=N) (h:B8) (p:Int) (path:B8) (k:B8->Option (ApiDID×Int)): ∀(xs:List B8) (acc:B8),acc.length+3 * wS xs<=300000->EE N (GM h p path) k xs acc=if xs.any (Vi N)=true then some (O8,110)else k (if path=QH then acc else acc++xs.flatMap (Ns N))
 |[],acc,_=>by rw[EE];simp
 |x::xs,acc,hb=>by
  have hu:=Yn (N:=N) x;have hd:=NA (N:=N) x;have hf:=Si (f:=IX) (n:=3) (λb=>(Og b).1) (Ao N x).1;rw[Ra]at hb;rw[EE,bT,aR];dsimp only[AB];rw[A9 fH,AmW,Qz _ hN,aa];unfold Vi;by_cases h1:x.all Rt=true;rotate_left;·rw[aj h1,Bool.eq_false_iff.2 h1];rfl
  rw[an h1,h1];by_cases h2:((Ao N x).1==[])=true;·rw[an h2,h2];rfl
  rw[aj h2,Bool.eq_false_iff.2 h2,bE,be,be];change (if(path==QH)=true then _ else _)=_;by_cases hr:path=QH;·rw[an (show(path==QH)=true by simpa using hr),WN hN h p path k xs acc fH];simp only[hr,aB];rfl
  ·rw[aj (show¬(path==QH)=true by simpa using hr),ATq _ fH,aa,A9 (by simp only[ae,ap];omega),A9 (by simp only[ah,ae,ap];omega)];have e:acc++([58]++(Ao N x).1.flatMap IX)=acc++Ns N x:=rfl;rw[e,WN hN h p path k xs _ (by rw[ah];omega)];simp only[hr,az,aH];rfl
def Ad3 (hN:20000<=N):((AV 47 QH).drop 1).dropLast.any (Vi N)=false:=by have e:((AV 47 QH).drop 1).dropLast=[[46,119,101,108,108,45,107,110,111,119,110]]:=fJ;rw[e];simp only[bT,List.any_nil,di];unfold Vi;rw[Vz fJ hN];rfl
theorem AmJ (h:B8) (p:Int) (path:B8) (hu:Vl (GM h p path)) (hh:h.length<=1000) (hp:path.length<=5000) (hL:(AV 47 path).drop 1≠ []) (hN:20000<=N):NC N (GM h p path)=some (Yb N (GM h p path)):=by
 have hpt:=hu.1;have hF:(Im (GM h p path)).length<=1000000:=by have:=YT h p;have ht:Lm (GM h p path)=path:=rfl;have he:Im (GM h p path)=([104,116,116,112,115,58,47,47]++hpF h p)++path:=rfl;rw[he];simp only[ah,ae,ap];omega
 have hw:=U3 47 path;have hw1:=YJ (AV 47 path);have hsl:=IZ 47 path;have hne:=Fg 47 path;unfold NC Yb;rw[PX _ hu hF hN,aa];by_cases hv:Lb N (GM h p path)=true;rotate_left;·rw[aj hv,aj hv];rfl
 rw[an hv,an hv];change Option.bind (EZ N path (AJ 47)) _=some (Um N h p path ((AV 47 path).drop 1));rw[Qa _ 47 fH,aa,AZU hne fH];rw[aa];have hroot:path=QH->((AV 47 path).drop 1).dropLast.any (Vi N)=false:=λe=>by rw[e];exact Ad3 hN
 generalize (AV 47 path).drop 1=L at *;have hLl:L.length<=wS L:=by unfold wS;omega
 obtain⟨y,hy1,hy2⟩:=AFJ hL fH;dsimp only[AB];change Option.bind (idx L (wr .i64 ((L.length:Int)-1))) (λx10=>if(!(x10==ACr))=true then some (O8,(6:Int))else _)=_;rw[hy2,aa];unfold Um;rw[hy1];by_cases hd:y=ACr;rotate_left;·rw[an (by simpa using hd),an (by simpa using hd)]
 rw[aj (show¬(!(y==ACr))=true by simp[hd]),aj (show¬(some y==some ACr)=false by simp[hd]),ASe hL fH,aa];have hpos:0<L.length:=bR.2 hL;by_cases h1:L.length=1;·rw[an (show(((L.dropLast.length:Nat):Int)==0)=true by simp[h1]),an h1];rfl
 rw[aj (show¬(((L.dropLast.length:Nat):Int)==0)=true by simp;omega),aj h1];have hid:=AZS h p;have hdl:=Yr (N:=N) L.dropLast;have hwl:=Ug L;have hdll:L.dropLast.length<=wS L.dropLast:=by unfold wS;omega
 have fin: ∀I:B8,I.length<=100000->((CV N (ApiDID.mk ([119,101,98]:B8) I)).bind λy24=>if(decide ((y24.length:Int)>4096))=true then(some ((ApiDID.mk [] []),5):Option (ApiDID×Int))else some ((ApiDID.mk ([119,101,98]:B8) I),0))=some (if(HV ⟨Kq,I⟩).length>4096 then(O8,5)else(⟨Kq,I⟩,0)):=by
  intro I hI;rw[XL _ ⟨fI,by dsimp only;omega⟩,aa];change (if decide (((HV ⟨Kq,I⟩).length:Int)>4096)=true then _ else _)=_;split;·rename_i AX;rw[an (by simp only[au]at AX;omega)];rfl
  ·rename_i AX;rw[aj (by simp only[au]at AX;omega)];rfl
 refine(Az3 (N:=N) h p hpt fH fH (λJ=>grd (AL L.dropLast.length) (EE N (GM h p path) (λj18=>(CV N (ApiDID.mk ([119,101,98]:B8) j18)).bind λy42=>if(decide ((y42.length:Int)>4096))=true then some ((ApiDID.mk [] []),5)else some ((ApiDID.mk ([119,101,98]:B8) j18),0)) L.dropLast J))).trans ?_;rw[A9 fH,WN hN h p path _ _ _ fH];by_cases hr:path=QH;·rw[hroot hr,aj fJ,an hr,an hr];exact fin (idA h p) fH
 rw[aj hr,aj hr];by_cases hb:L.dropLast.any (Vi N)=true;·rw[an hb,an hb]
 ·rw[aj hb,aj hb];exact fin _ (by rw[ah];omega)
def Y7 (c:UInt8): ∀a b:B8,AV c (a++c::b)=AV c a++AV c b
 |[],b=>by simp[AV]
 |x::a,b=>by
  rw[bz,AV,AV,Y7 c a b];split;·rfl
  ·cases h:AV c a with|nil=>exact absurd h (Fg c a)|cons p ps=>rfl
theorem YU (xs:List B8):(AV 47 (Kr N xs)).drop 1≠ []:=by
 unfold Kr;split;·decide
 ·have:AVy=47::ACr:=rfl;rw[this,Y7];intro h;have h1:=br List.length h;have h2:0<(AV 47 (xs.flatMap (upT N))).length:=bR.2 (Fg _ _);have h3:(AV 47 ACr).length=1:=fJ;simp only[aP,ah,ap]at h1;omega
def WU (N:Nat) (d:ApiDID):ApiDID×Int:=if((toS N d).2 !=0)=true then(O8,(toS N d).2)else Yb N (toS N d).1
def ABu{d:ApiDID} (h: ¬((toS N d).2 !=0)=true):(toS N d).1=GM (DI N d).1.host (DI N d).1.port (Kr N ((AV 58 d.iD).drop 1))/\(Im (toS N d).1).length<=4096/\((DI N d).2 !=0)=false/\((AV 58 d.iD).drop 1).any (upB N)=false:=by
 unfold toS at h⊢;split at h;·rename_i h1;exact absurd h1 h
 rename_i h1;rw[aj h1];split at h;·exact absurd rfl h
 rename_i h2;rw[aj h2];split at h;·exact absurd rfl h
 rename_i h3;rw[aj h3];exact⟨rfl,by dsimp only;omega,by simpa using h1,by simpa using h2⟩
def AAt{d:ApiDID} (h: ¬((toS N d).2 !=0)=true):(Kr N ((AV 58 d.iD).drop 1)).length<=4096:=by obtain⟨h1,h2,_⟩:=ABu h;rw[h1]at h2;have he: ∀(a:B8) (b:Int) (c:B8),Im (GM a b c)=([104,116,116,112,115,58,47,47]++hpF a b)++c:=λ_ _ _=>rfl;rw[he]at h2;simp only[ah,ae,ap]at h2;omega
def ABb{d:ApiDID} (h: ¬((toS N d).2 !=0)=true):Vl (GM (DI N d).1.host (DI N d).1.port (Kr N ((AV 58 d.iD).drop 1))):=by have:=AAt h;obtain⟨a1,a2⟩:=UD (N:=N) d;exact⟨a1,by simp only[GM];omega,by simp only[GM];omega,by simp[GM],by simp[GM]⟩
def AkX (d:ApiDID) (hm:d.method.length<=4096) (hi:d.iD.length<=16000) (hN:20000<=N):Jp N d=some (WU N d):=by
 obtain⟨a1,a2⟩:=UD (N:=N) d;unfold Jp WU;rw[AZs d hm hi hN,aa];by_cases h:((toS N d).2 !=0)=true;·rw[an h,an h];rfl
 have hb:=AAt h;have hu:=ABb h;rw[aj h,aj h,(ABu h).1,Ak7 _ _ _ hu fH fH (YU _) hN];rfl
def AlA (d:ApiDID) (hm:d.method.length<=4096) (hi:d.iD.length<=16000) (hN:20000<=N):KL N d=some (WU N d):=by
 obtain⟨a1,a2⟩:=UD (N:=N) d;unfold KL WU;rw[AaB d hm hi hN,aa];by_cases h:((toS N d).2 !=0)=true;·rw[an h,an h];rfl
 have hb:=AAt h;have hu:=ABb h;rw[aj h,aj h,(ABu h).1,AmJ _ _ _ hu fH fH (YU _) hN];rfl
def Xv{c:UInt8} (h:Es c=true):c≠35/\c≠63/\c≠47/\c≠58/\c≠37/\c≠64:=by have key:=Bt (f:=λn=>(!Es (UInt8.ofNat n))||(decide (UInt8.ofNat n≠35)&&(decide (UInt8.ofNat n≠63)&&(decide (UInt8.ofNat n≠47)&&(decide (UInt8.ofNat n≠58)&&(decide (UInt8.ofNat n≠37)&&decide (UInt8.ofNat n≠64))))))) (g:=λ_=>true) (by kernel_rfl) c;simp only[bP]at key;rw[h]at key;simpa using key
def Aa1{c:UInt8} (h:AM5 c=true\/GH c=true\/c=46):Es (FP c)=true:=by
 have key:=Bt (f:=λn=>(!(AM5 (UInt8.ofNat n)||(GH (UInt8.ofNat n)||decide (UInt8.ofNat n=46))))||Es (FP (UInt8.ofNat n))) (g:=λ_=>true) (by kernel_rfl) c;simp only[bP]at key;rcases h with h|h|h;·rw[h]at key;simpa using key
 ·rw[h]at key;simpa using key
 ·rw[h]at key⊢;simpa using key
def Yl (c:UInt8): ∀(l:B8) (x:UInt8),x∈l->x=c\/∃p,p∈AV c l/\x∈p
 |[],x,h=>by cases h
 | y::t,x,h=>by
  rw[AV];split
  ·rename_i hy;rcases aM.1 h with rfl|h;·exact .inl hy
   ·rcases Yl c t x h with h|⟨p,hp,AX⟩;·exact .inl h
    ·exact .inr ⟨p,by simp[hp],AX⟩
  ·cases hs:AV c t with
   |nil=>exact absurd hs (Fg c t)
   | cons p ps=>
    simp only;rcases aM.1 h with rfl|h;·exact .inr ⟨x::p,fI,fI⟩
    ·rcases Yl c t x h with h|⟨q,hq,AX⟩;·exact .inl h
     ·rw[hs]at hq;rcases aM.1 hq with rfl|hq;·exact .inr ⟨y::q,fI,by simp[AX]⟩
      ·exact .inr ⟨q,by simp[hq],AX⟩
def AZK{m:Nat}{l:B8} (h:(Dp m l).2=0):l.all GH=true:=by
 unfold Dp at h;split at h;·cases h
 split at h;·assumption
 ·cases h
def AXB{a:B8} (h:((Ow a).2 !=0)=false):(Ow a).1≠ []/\∀x,x∈(Ow a).1->Es x=true:=by
 unfold Ow at h⊢;split at h;·cases h
 rename_i h0;rw[aj h0];split at h;·cases h
 rename_i h1;rw[aj h1];split at h;rotate_left;·cases h
 rename_i h2;rw[an h2];refine⟨by simpa using h0,λx AX=>?_⟩;obtain⟨y,hy,rfl⟩:=bk.1 AX;refine Aa1 ?_;rcases Yl 46 a y hy with h|⟨p,hp,hyp⟩;·exact .inr (.inr h)
 ·rw[ce]at h2;rcases h2 with h2|h2;·unfold ARS at h2;rw[aw]at h2;have:=aL.1 h2.2 p hp;exact .inr (.inl (aL.1 (AZK (by simpa using this)) y hyp))
  ·unfold Ud at h2;rw[aw]at h2;have:=aL.1 h2.1 p hp;unfold Qw at this;simp only[aw]at this;exact .inl (aL.1 this.2.2.2.2 y hyp)
def AjJ{a:B8} (h:((hpS a).2 !=0)=false):(hpS a).1.host≠ []/\∀x,x∈(hpS a).1.host->Es x=true:=by
 unfold hpS at h⊢;split at h;·rename_i h1;rw[h1]at h;cases h
 rename_i h1;have hc:=AXB (a:=(Af 58 a).1) (by simpa using h1);rw[aj h1];split at h
 ·rename_i h2;rw[an h2];split at h;·rename_i h3;rw[h3]at h;cases h
  ·rename_i h3;rw[aj h3];exact hc
 ·rename_i h2;rw[aj h2];exact hc
def AQ6: ∀(k n:Nat) (acc:B8),acc.all Es=true->(ACQ k n acc).all Es=true
 |0,n,acc,h=>h
 |k+1,n,acc,h=>by
  have hd:Es (UInt8.ofNat (48+n % 10))=true:=by have:n % 10<10:=fC _ fJ;generalize n % 10=d at *;have:d=0\/d=1\/d=2\/d=3\/d=4\/d=5\/d=6\/d=7\/d=8\/d=9:=fH;rcases this with rfl|rfl|rfl|rfl|rfl|rfl|rfl|rfl|rfl|rfl<;>decide
  rw[ACQ];split;·rw[aQ,hd,h];rfl
  ·exact AQ6 k _ _ (by rw[aQ,hd,h];rfl)
def Wh{l:B8} (h: ∀x,x∈l->Es x=true):l.flatMap IX=l:=by induction l with|nil=>rfl|cons c l ih=>rw[aR,ih λx AX=>h x (by simp[AX])];unfold IX;rw[an (h c fI)];rfl
def AFD (n:Nat): ∀x,x∈fmtS n->Es x=true:=λx AX=>aL.1 (AQ6 20 n [] rfl) x AX
def Ara{h:B8} (p:Int) (hh: ∀x,x∈h->Es x=true):idA h p=(hpF h p).flatMap IX:=by
 unfold idA hpF;split;·rw[Wh hh]
 ·rw[cV,cV,Wh hh,Wh (AFD _),aH];rfl
def Ajh (b:UInt8) (t:B8):NU (Tw (b.toNat / 16)::Tw (b.toNat % 16)::t)=some b:=by have key:=Bt (f:=λn=>decide (NU [Tw (n / 16),Tw (n % 16)]=some (UInt8.ofNat n))) (g:=λ_=>true) (by kernel_rfl) b;simp only[au,bP]at key;rw[<-key];rfl
def AuK (b:UInt8) (t:B8):unS (NZ b++t)=(unS t).map ((true,b):: ·):=by change FN _ (37::Tw (b.toNat / 16)::Tw (b.toNat % 16)::t)=_;rw[FN,an rfl,Ajh];simp only[dD,aO];rw[AWE (by simp only[NZ,ah,ae,ap];omega)]
def Aya{b:UInt8} (h:b≠37) (t:B8):unS ([b]++t)=(unS t).map ((false,b):: ·):=by change FN _ (b::t)=_;rw[FN,aj h,AWE (by simp only[ah,ae,ap];omega)]
def AoE: ∀l:B8,unS (l.flatMap IX)=some (l.map λb=>(!Es b,b))
 |[]=>rfl
 |b::l=>by
  rw[aR,aF];have ih:=AoE l;cases hp:Es b;·rw[show IX b=NZ b by unfold IX;rw[hp];rfl,AuK,ih];rfl
  ·rw[show IX b=[b] by unfold IX;rw[hp];rfl,Aya (Xv hp).2.2.2.2.1,ih];rfl
def Aqu (b:UInt8):(NZ b).all XU=true:=by have key:=Bt (f:=λn=>([37,Tw (n / 16),Tw (n % 16)]:B8).all XU) (g:=λ_=>true) (by kernel_rfl) b;exact key
def AZY (l:B8):(l.flatMap IX).all XU=true:=by
 rw[aL];intro x AX;obtain⟨b,_,hb⟩:=dX.1 AX;unfold IX at hb;split at hb;·rename_i hp;rcases aY.1 hb with rfl;unfold XU;rw[hp];rfl
 ·exact aL.1 (Aqu b) x hb
def ARr (l:B8):(l.flatMap IX).contains 58=false:=by
 cases h:(l.flatMap IX).contains 58;·rfl
 ·have:=aL.1 (AZY l) 58 (by simpa using h);exact absurd this fJ
def ACY{l:B8} (hb:(l.flatMap IX).length<=16000) (hN:20000<=N):Ao N (l.flatMap IX)=(l,0):=by
 rw[Vz hb hN,AoE];simp only[fE];congr 1;conv=>rhs;rw[<-List.map_id l]
 congr 1
def ACm{c:UInt8}{l:B8} (h:l.contains c=false):AV c l=[l]:=by rw[MP,TC h];rfl
def ACg: ∀(ps:List B8) (e:B8),e.contains 58=false->(∀p,p∈ps->p.contains 58=false)->AV 58 (e++ps.flatMap λp=>58::p)=e::ps|[],e,he,_=>by rw[List.flatMap_nil,bo,ACm he]|p::ps,e,he,h=>by rw[aR,bz,Y7,ACm he,ACg ps p (h p fI) λq hq=>h q (by simp[hq])];rfl
def AeX (hN:20000<=N){I:B8} (hb:I.length<=16000){ps:List B8} (hs:AV 58 I=ps.map λl=>l.flatMap IX) (hne: ∀l,l∈ps->l≠ []):(Qv I).2=0/\AIE (Qv I).1=false:=by
 have hpt:=JO 58 I;have hdk:(AV 58 I).all (Vn N)=true:=by rw[aL];intro p hp;have hl:=hpt p hp;rw[hs]at hp;obtain⟨l,hl',rfl⟩:=bk.1 hp;unfold Vn;rw[ACY fH hN];rfl
 have hok:((AV 58 I).all λp=>p.all XU)=true:=by rw[aL];intro p hp;rw[hs]at hp;obtain⟨l,hl',rfl⟩:=bk.1 hp;exact AZY l
 obtain⟨r1,r2⟩:=ALO (N:=N) hN I.length I (av _) hb;unfold Qv;cases hu:unS I with
 |none=>rw[r1 hu]at hdk;cases hdk
 |some us=>
  obtain⟨_,q2,q3⟩:=r2 us hu;rw[hok]at q2;simp only;rw[an q2.symm];refine⟨rfl,?_⟩;dsimp only;rw[<-q3 q2.symm,AWZ _ _ (Fg 58 I)];have hm:=eY (Fg 58 I);have hdl:=aL.1 hdk _ hm;have hl:=hpt _ hm;rw[ARi fH hN hdl];have hm':(AV 58 I).getLast (Fg 58 I)∈ps.map λl=>l.flatMap IX:=by rw[<-hs];exact hm
  obtain⟨l,hl',he⟩:=bk.1 hm';have hne:=hne l hl';rw[<-he];cases l with|nil=>exact absurd rfl hne|cons b l=>have:=(Og b).2;cases hq:IX b with|nil=>rw[hq]at this;simp at this|cons y ys=>simp[hq]
def AiM{I:B8} (hl:(HV ⟨Kq,I⟩).length<=4096) (h1:(Qv I).2=0) (h2:AIE (Qv I).1=false):(Ou (HV ⟨Kq,I⟩)).2=0:=by obtain⟨k1,k2,k3⟩:=YW I;unfold Ou;rw[aj fH,k1,k2];dsimp only;rw[aj fJ,aj fJ,aj fJ,aj (by rw[h1];decide),h2];rfl
def ArQ{U:ApiURI} (h:(AAT N U).2=0):((hpS U.authority).2 !=0)=false/\(AAT N U).1.host=(hpS U.authority).1.host/\(AAT N U).1.port=(hpS U.authority).1.port:=by
 unfold AAT at h⊢;split at h;·cases h
 rename_i h1;rw[aj h1];split at h;·cases h
 rename_i h2;rw[aj h2];split at h;·rename_i h3;dsimp only at h;rw[h]at h3;cases h3
 rename_i h3;rw[aj h3];split at h;·rename_i h4;dsimp only at h;rw[h]at h4;cases h4
 rename_i h4;rw[aj h4];split at h;·rename_i h5;dsimp only at h;rw[h]at h5;cases h5
 rename_i h5;rw[aj h5];split at h;·rename_i h6;dsimp only at h;rw[h]at h6;cases h6
 rename_i h6;rw[aj h6];split at h;·cases h
 rename_i h7;rw[aj h7];exact⟨by simpa using h3,rfl,rfl⟩
def Acy{u:ApiURL} (h:Lb N u=true):AAT N (ADv TQ (AD3 u))=(u,0):=by
 unfold Lb at h;split at h;rotate_left;·cases h
 rename_i h0;have hu:=Av7 h;have hp:(AUM N TQ (AD3 u)).2=0:=by simpa using h0
 unfold AUM at hu hp;split at hp;·cases hp
 rename_i hl;rw[aj hl]at hu;exact Prod.ext hu.symm hp
theorem As7{h:B8}{p:Int}{q:B8} (hh: ∀x,x∈h->Es x=true):(ADv TQ (AD3 (GM h p (47::q)))).authority=hpF h p:=by
 have hF: ∀x,x∈hpF h p->x≠35/\x≠63/\x≠47:=by
  intro x AX;unfold hpF at AX;split at AX;·obtain⟨a,b,c,_⟩:=Xv (hh x AX);exact⟨a,b,c⟩
  ·simp only[aZ,aY]at AX;rcases AX with(AX|AX)|AX;·obtain⟨a,b,c,_⟩:=Xv (hh x AX);exact⟨a,b,c⟩
   ·subst AX;decide
   ·obtain⟨a,b,c,_⟩:=Xv (AFD _ x AX);exact⟨a,b,c⟩
 have e:AD3 (GM h p (47::q))=([47,47]++(hpF h p++[47]))++q:=by have:AD3 (GM h p (47::q))=[47,47]++(hpF h p++((47::q)++[])):=rfl;rw[this];simp
 have hne: ∀c:UInt8,(c=35\/c=63)->∀x,x∈([47,47]++(hpF h p++[47]):B8)->x≠c:=by
  intro c hc x AX;simp only[aZ,aM,dw,eF]at AX;rcases AX with(AX|AX)|AX|AX;·subst AX;rcases hc with rfl|rfl<;>decide
  ·subst AX;rcases hc with rfl|rfl<;>decide
  ·obtain⟨a,b,_⟩:=hF x AX;rcases hc with rfl|rfl<;>assumption
  ·subst AX;rcases hc with rfl|rfl<;>decide
 unfold ADv;dsimp only;rw[e,AAq _ _ (hne 35 (.inl rfl))];dsimp only;rw[AAq _ _ (hne 63 (.inr rfl))];dsimp only;generalize (Af 63 (Af 35 q).1).1=z;unfold OU;rw[an (by rfl)];dsimp only;have:([47,47]++(hpF h p++[47])++z:B8).drop 2=hpF h p++47::z:=fI;rw[this,List.takeWhile_append_of_pos (λx AX=>by simpa using(hF x AX).2.2)];simp
def AdF (xs:List B8): ∃q,Kr N xs=47::q:=by
 unfold Kr;split;·exact⟨_,rfl⟩
 ·cases xs with|nil=>exact⟨_,rfl⟩|cons x xs=>exact⟨_,rfl⟩
def round{h:B8}{p:Int}{q:B8} (hN:20000<=N) (hq:q.length<=5000) (hv:(Yb N (GM h p (47::q))).2=0):DI N (Yb N (GM h p (47::q))).1=(⟨h,p⟩,0):=by
 have hw:=U3 47 (47::q);have hw1:=YJ (AV 47 (47::q));rw[ae]at hw;unfold Yb at hv⊢;split at hv;rotate_left;·cases hv
 rename_i hval;rw[an hval];have hw:=Acy hval;obtain⟨w1,w2,w3⟩:=ArQ (N:=N) (U:=ADv TQ (AD3 (GM h p (47::q)))) (by rw[hw]);rw[hw]at w2 w3;obtain⟨c1,c2⟩:=AjJ w1;have hh: ∀x,x∈h->Es x=true:=by change h=_ at w2;rw[<-w2]at c2;exact c2
 have hn:h≠ []:=by change h=_ at w2;rw[w2];exact c1
 rw[As7 hh]at w1 w2 w3;have hp:hpS (hpF h p)=(⟨h,p⟩,0):=by refine Prod.ext ?_ (by simpa using w1);change h=_ at w2;change p=_ at w3;cases AX:(hpS (hpF h p)).1;rw[AX]at w2 w3;rw[w2,w3]
 have hFn:hpF h p≠ []:=by
  unfold hpF;split;·exact hn
  ·simp
 have main: ∀xs:List B8,(∀x,x∈xs->(Ao N x).1≠ [])->(HV ⟨Kq,idA h p++xs.flatMap (Ns N)⟩).length<=4096->DI N ⟨Kq,idA h p++xs.flatMap (Ns N)⟩=(⟨h,p⟩,0):=by
  intro xs AX hl;have hsp:AV 58 (idA h p++xs.flatMap (Ns N))=(hpF h p::xs.map λx=>(Ao N x).1).map λl=>l.flatMap IX:=by
   have e:xs.flatMap (Ns N)=(xs.map λx=>(Ao N x).1.flatMap IX).flatMap λp=>58::p:=by rw[List.flatMap_map];rfl
   rw[e,Ara p hh,ACg _ _ (ARr _) (λy hy=>by obtain⟨x,_,rfl⟩:=bk.1 hy;exact ARr _),aF,fE];rfl
  have hI:(idA h p++xs.flatMap (Ns N)).length<=4096:=by have:=(YW (idA h p++xs.flatMap (Ns N))).2.2;omega
  obtain⟨r1,r2⟩:=AeX hN fH hsp (λl hl=>by
   rcases aM.1 hl with rfl|hl;·exact hFn
   ·obtain⟨x,hx',rfl⟩:=bk.1 hl;exact AX x hx');have hd:=AiM hl r1 r2;have hcut:(Af 58 (idA h p++xs.flatMap (Ns N))).1=(hpF h p).flatMap IX:=by have:=YM 58 (idA h p++xs.flatMap (Ns N));rw[hsp]at this;simpa using this.symm
  unfold DI;rw[aj (show¬((Kq==Kq)=false) by decide),aj (by rw[hd];decide),hcut,ACY (by have:=JO 58 (idA h p++xs.flatMap (Ns N)) ((hpF h p).flatMap IX) (by rw[hsp];simp);omega) hN,hp]
 change (Um N h p (47::q) ((AV 47 (47::q)).drop 1)).2=0 at hv;change DI N (Um N h p (47::q) ((AV 47 (47::q)).drop 1)).1=_;unfold Um at hv⊢;split at hv;·cases hv
 rename_i h1;rw[aj h1];split at hv;·cases hv
 rename_i h2;rw[aj h2];split at hv
 ·rename_i h3;rw[an h3];split at hv;·cases hv
  rename_i h4;rw[aj h4];have:=main [] fI (by simpa using h4);simpa using this
 rename_i h3;rw[aj h3];split at hv;·cases hv
 rename_i h5;rw[aj h5];split at hv;·cases hv
 rename_i h6;rw[aj h6];refine main _ (λx AX=>?_) (by change¬_>_ at h6;omega);have h5':((AV 47 (47::q)).drop 1).dropLast.any (Vi N)=false:=by simpa using h5
 have:=eT.1 h5' x AX;unfold Vi at this;simp only[ce,fG]at this;simpa using this.2
def AdE{d:ApiDID} (hN:20000<=N) (h:(WU N d).2=0):((DI N (WU N d).1).2 !=0)=false:=by
 unfold WU at h⊢;split at h;·rename_i h0;dsimp only at h;rw[h]at h0;cases h0
 rename_i h0;rw[aj h0];have hb:=AAt h0;rw[(ABu h0).1]at h⊢;obtain⟨q,hq⟩:=AdF (N:=N) ((AV 58 d.iD).drop 1);rw[hq]at h hb⊢;rw[ae]at hb;rw[round hN fH h];rfl
def id0:ApiID:=⟨0,[],[],0⟩
def ATM (N:Nat) (s:B8):ApiID×Int:=if((Ou s).2 !=0)=true then(id0,(Ou s).2)else if((WU N (Ou s).1).2 !=0)=true then(id0,(WU N (Ou s).1).2)else(⟨4,HV (WU N (Ou s).1).1,(DI N (WU N (Ou s).1).1).1.host,(DI N (WU N (Ou s).1).1).1.port⟩,0)
def Adw{h:B8}{p:Int}{path:B8}{L:List B8}:(Um N h p path L).1.method.length<=4096/\(Um N h p path L).1.iD.length<=4096:=by
 have hf: ∀I:B8,¬(HV ⟨Kq,I⟩).length>4096->(⟨Kq,I⟩:ApiDID).method.length<=4096/\(⟨Kq,I⟩:ApiDID).iD.length<=4096:=λI hI=>by have:=(YW I).2.2;exact⟨by simp[Kq],by dsimp only;omega⟩
 unfold Um;repeat' split
 all_goals first|exact hf _ (by assumption)|simp[O8]
def AVC (d:ApiDID):(WU N d).1.method.length<=4096/\(WU N d).1.iD.length<=4096:=by
 unfold WU Yb;split;·simp[O8]
 split;·exact Adw
 ·simp[O8]
def Au0 (s:B8) (hb:s.length<=1000000) (hN:20000<=N):Jg N s=some (ATM N s):=by
 obtain⟨l1,l2⟩:=ASW s;obtain⟨c1,c2⟩:=AVC (N:=N) (Ou s).1;unfold Jg ATM;rw[Aam s hb hN,aa,AkX _ l1 fH hN,aa,AFT _ c1 fH hN,aa,YO _ ⟨fH,fH⟩,aa];split;·rfl
 split;·rfl
 rename_i h;rw[AdE hN (by simpa using h)];rfl
def AwR (s:B8) (hb:s.length<=1000000) (hN:20000<=N):KP N s=some (ATM N s):=by
 obtain⟨l1,l2⟩:=ASW s;obtain⟨c1,c2⟩:=AVC (N:=N) (Ou s).1;unfold KP ATM;rw[AZc s hb hN,aa,AlA _ l1 fH hN,aa,AgG _ c1 fH hN,aa,XL _ ⟨fH,fH⟩,aa];split;·rfl
 split;·rfl
 rfl
end
section
variable{N:Nat}{l:B8}
end
section
variable{N:Nat}
def AFC (k2:Unit->Option Bool): ∀suf pre:List ApiField,ER N (pre++suf) k2 suf (pre.length:Int)=k2 ()|[],pre=>rfl|x::t,pre=>by have ih:=AFC k2 t (pre++[x]);rw[ah,bh,aH,dU]at ih;rw[ER,TI,aa,an fI,show(pre.length:Int)+1=((pre.length+1:Nat):Int) by omega,ih]
def AFK (k2:Unit->Option Bool): ∀suf pre:List ApiExchange,Eu N (pre++suf) k2 suf (pre.length:Int)=k2 ()|[],pre=>rfl|x::t,pre=>by have ih:=AFK k2 t (pre++[x]);rw[ah,bh,aH,dU]at ih;rw[Eu,TI,aa,an fI,show(pre.length:Int)+1=((pre.length+1:Nat):Int) by omega,ih]
def Ab5{B:Nat}{r:ApiResponse} (h:AaR B r):RG N r r=some true:=by obtain⟨h1,h2,h3⟩:=h;have f1:=AFC (N:=N) (λ_=>some true) r.head.fields [];have f2:=AFK (N:=N) (λ_=>some true) r.trace [];rw[ap,bm,show((0:Nat):Int)=0 from rfl]at f1 f2;unfold RG Sz MG NI;simp only[AB,dY,cS,aB,bne_self_eq_false,aq,az];rw[A9 (by have:=h1.1;omega),f1,A9 fH,f2];rfl
def OM (d:MadeDice):Prop:= ∀a,a∈d.l->0<=a/\a<=255
def Gg{d:MadeDice} (hd:OM d) (hl:d.l.length<=1000){n:Nat} (h1:1<=n) (h2:n<=1000):Ok (Aj N d (n:Int)) λr=>(0<=r.1/\r.1<n)/\OM r.2/\r.2.l.length<=1000:=by
 unfold Aj;have hz:Ok (some ((0:Int),d)) λr=>(0<=r.1/\r.1<n)/\OM r.2/\r.2.l.length<=1000:=.ret ⟨⟨bD _,by dsimp only;omega⟩,hd,hl⟩;dsimp only[AB];cases hq:d.l with
 |nil=>exact hz
 |cons a t=>
  rw[hq]at hl;simp only[ae]at hl;obtain⟨a1,a2⟩:=hd a (by rw[hq];simp);rw[aj fK];refine Ok.ite (λ_=>hz) λ_=>?_;have e1:sub (a::t) 1 ((a::t).length:Int)=some t:=by rw[show(1:Int)=((1:Nat):Int)from rfl,A8 _ 1 _ fI (av _)];simp
  rw[show idx (a::t) 0=some a from rfl,aa,e1,aa,Ai fH];refine .grd fH (.ret ⟨⟨?_,?_⟩,λb hb=>hd b (by rw[hq];simp[hb]),by dsimp only;omega⟩);·exact Int.tmod_nonneg _ a1
  ·exact Int.tmod_lt_of_pos _ fH
def Aiz{d:MadeDice} (hd:OM d) (hl:d.l.length<=1000){l:List B8} (h1:1<=l.length) (h2:l.length<=1000) (h3: ∀s,s∈l->s.length<=30):Ok (BP N d l) λr=>r.1.length<=30/\OM r.2/\r.2.l.length<=1000:=by unfold BP;refine .bind (Gg hd hl h1 h2) λy ⟨⟨y1,y2⟩,y3,y4⟩=>?_;refine .bind (Ok.idx y1 y2) λx AX=>.ret ⟨h3 x (d7 AX),y3,y4⟩
theorem AEe: ∀(j k n:Nat) (s:B8),n<10^(j+1)->j<k->j<=18->s.length+(j+1)<=1000->∃r,F5 N k (n:Int) s=some r/\r.length<=s.length+(j+1)
 |j,0,n,s,_,hk,_,_=>absurd hk (cq _)
 | j,k+1,n,s,hn,hk,hj,hs=>by
  have hp:10^(j+1)<=10^19:=Nat.pow_le_pow_right fJ fH;have hq:((n:Int).tdiv 10)=((n / 10:Nat):Int):=by rw[bF fH];omega
  have hlt:n<10^19:=fH;have hw:wr .i64 ((n / 10:Nat):Int)=((n / 10:Nat):Int):=Ai (by have:n / 10<10^18:=fH;omega);rw[F5,hq,hw];have hl:(List.map FQ [wr .u8 (wr .i64 (48+(n:Int).tmod 10))]).length=1:=rfl;rw[A9 (by rw[hl];omega)];by_cases h0:((n / 10:Nat):Int)=0;·rw[an (bf.2 h0)];exact⟨_,rfl,by rw[ah,hl];omega⟩
  ·rw[aj (by rw[bf];exact h0)];match j,hn,hk,hj with
   |0,hn,_,_=>exfalso;omega
   |j+1,hn,hk,hj=>
    have h10:n / 10<10^(j+1):=by rw[Nat.pow_succ]at hn;omega
    obtain⟨r,h1,h2⟩:=AEe j k (n / 10) (List.map FQ [wr .u8 (wr .i64 (48+(n:Int).tmod 10))]++s) h10 fH fH (by rw[ah,hl];omega);refine⟨r,h1,?_⟩;rw[ah,hl]at h2;omega
def VI{n:Nat} (hn:n<=1000000000) (hN:100<=N):Ok (EH N (n:Int)) λr=>r.length<=10:=by obtain⟨r,h1,h2⟩:=AEe (N:=N) 9 N n [] fH fH fH fI;exact⟨r,h1,by simpa using h2⟩
def AQt (k8:B8->Option B8){M:Nat} (hM:M<=1000000): ∀(fs:List ApiField) (s:B8),s.length+ED fs+4 * fs.length<=M->∃t,Dc N k8 fs s=k8 t/\t.length=s.length+ED fs+4 * fs.length
 |[],s,_=>⟨s,rfl,by simp[ED]⟩
 |f::fs,s,h=>by
  have e:ED (f::fs)=f.name.length+f.value.length+ED fs:=by simp[ED]
  rw[e,ae]at h;obtain⟨t,h1,h2⟩:=AQt k8 hM fs (s++(((f.name++[58,32])++f.value)++[13,10])) (by simp only[ah,ae,ap];omega);refine⟨t,?_,?_⟩;·rw[Dc,A9 (by simp only[ae,ap];omega),A9 (by simp only[ah,ae,ap];omega),A9 (by simp only[ah,ae,ap];omega),A9 (by simp only[ah,ae,ap];omega),h1]
  ·rw[h2,e];simp only[ah,ae,ap];omega
def AnV{h:ApiHead}{d:Nat} (hd:Ok (Bi N h.status) λr=>r.length<=d) (hs:ED h.fields+4 * h.fields.length+d<=900000):Ok (En N h) λr=>r.length<=ED h.fields+4 * h.fields.length+d+20:=by
 obtain⟨y,h1,h2⟩:=hd;unfold En;have key: ∀j:B8,j.length=1->Ok (grd (AL (([72,84,84,80,47,49,46]:B8).length+j.length)) (grd (AL ((([72,84,84,80,47,49,46]:B8)++j).length+([32]:B8).length)) ((Bi N h.status).bind λy5=>grd (AL (((([72,84,84,80,47,49,46]:B8)++j)++([32]:B8)).length+y5.length)) (grd (AL ((((([72,84,84,80,47,49,46]:B8)++j)++([32]:B8))++y5).length+([32,45,13,10]:B8).length)) (grd (AL h.fields.length) (Dc N (λj7=>grd (AL (j7.length+([13,10]:B8).length)) (some (j7++[13,10]))) h.fields ((((([72,84,84,80,47,49,46]:B8)++j)++([32]:B8))++y5)++([32,45,13,10]:B8)))))))) λr=>r.length<=ED h.fields+4 * h.fields.length+d+20:=by intro j hj;obtain⟨t,t1,t2⟩:=AQt (N:=N) (λj7=>grd (AL (j7.length+([13,10]:B8).length)) (some (j7++[13,10]))) (M:=1000000) (av _) h.fields ((((([72,84,84,80,47,49,46]:B8)++j)++([32]:B8))++y)++([32,45,13,10]:B8)) (by simp only[ah,ae,ap];omega);simp only[ah,ae,ap]at t2;rw[A9 (by simp only[ae,ap];omega),A9 (by simp only[ah,ae,ap];omega),h1,aa,A9 (by simp only[ah,ae,ap];omega),A9 (by simp only[ah,ae,ap];omega),A9 fH,t1,A9 (by simp only[ae,ap];omega)];exact⟨_,rfl,by simp only[ah,ae,ap];omega⟩
 simp only[AB];by_cases h0:(h.minor==0)=true;·rw[an h0];exact key [48] rfl
 ·rw[aj h0];exact key [49] rfl
def Aaa (n:Nat):Ok (sub ([48,49,50,51,52,53,54,55,56,57,97,98,99,100,101,102]:B8) ((n:Int).tmod 16) (wr .i64 ((n:Int).tmod 16+1))) λx=>x.length=1:=by
 have e:(n:Int).tmod 16=((n % 16:Nat):Int):=by rw[eC fH];omega
 have w:wr .i64 (((n % 16:Nat):Int)+1)=((n % 16+1:Nat):Int):=by rw[Ai fH];omega
 rw[e,w,A8 _ _ _ fH (by simp only[ae,ap];omega)];exact⟨_,rfl,by simp only[bg,aP,ae,ap];omega⟩
def Apz{n:Nat} (hn:n<=255) (hN:10<=N):Ok (Sm N (n:Int)) λr=>r.length<=2:=by
 obtain⟨k,rfl⟩: ∃k,N=k+2:=⟨N-2,fH⟩;unfold Sm;have hq:((n:Int).tdiv 16)=((n / 16:Nat):Int):=by rw[bF fH];omega
 have hw:wr .i64 ((n / 16:Nat):Int)=((n / 16:Nat):Int):=Ai fH;have hq2:(((n / 16:Nat):Int).tdiv 16)=0:=by rw[bF fH];omega
 obtain⟨x,h1,h2⟩:=Aaa n;obtain⟨y,h3,h4⟩:=Aaa (n / 16);rw[JQ,h1,aa,A9 (by simp only[ap];omega),hq,hw];split;·exact⟨_,rfl,fK⟩
 ·rw[JQ,h3,aa,A9 (by simp only[ah,ap];omega),hq2,an (by rfl)];exact⟨_,rfl,fK⟩
def ATm{M:Nat} (hM:M<=900000) (hN:1000000<=N) (k2:B8->Option B8): ∀(k:Nat) (a s:B8),a.length<k->s.length+a.length+6 * ((a.length+49) / 50)<=M->∃t,Fz N 50 k2 k a s=k2 t/\t.length<=s.length+a.length+6 * ((a.length+49) / 50)
 |0,a,s,h,_=>absurd h (cq _)
 | k+1,a,s,h,hs=>by
  rw[Fz];by_cases h0:a=[];·subst h0;exact⟨s,rfl,fI⟩
  ·have hp:0<a.length:=bR.2 h0;rw[aj (by simpa using h0)];obtain⟨n,hn,hn1,hn2,hn3⟩: ∃n:Nat,(if(a.length:Int)<(if(50:Int)>1 then 50 else 1)then(a.length:Int)else(if(50:Int)>1 then 50 else 1))=(n:Int)/\1<=n/\n<=50/\n=min a.length 50:=by refine⟨min a.length 50,?_,fH,fH,rfl⟩;rw[show(if(50:Int)>1 then(50:Int)else 1)=50 from rfl];split<;>omega
   obtain⟨x,x1,x2⟩:=Apz (N:=N) (n:=n) fH fH;have s1:=A8 a 0 n fH fH;rw[aO,bB,show((0:Nat):Int)=0 from rfl]at s1;have hl:(a.take n).length=n:=by rw[bg];omega
   simp only[hn];rw[x1,aa,A9 fH,A9 (by simp only[ah,ae,ap];omega),s1,aa,A9 (by simp only[ah,ae,ap];omega),A9 (by simp only[ah,ae,ap];omega),Be fH,aa];have hd:(a.drop n).length=a.length-n:=aP;obtain⟨t,t1,t2⟩:=ATm hM hN k2 k (a.drop n) ((((s++x)++[13,10])++a.take n)++[13,10]) fH (by simp only[ah,ae,ap];omega);refine⟨t,t1,?_⟩;simp only[ah,ae,ap]at t2;omega
def AaG{a:B8} (ha:a.length<=100000) (hN:1000000<=N):Ok (Gh N a 50) λr=>r.length<=a.length+6 * ((a.length+49) / 50)+5:=by unfold Gh;rw[AB];obtain⟨t,h1,h2⟩:=ATm (N:=N) (M:=900000) fH hN (λj1=>grd (AL (j1.length+([48,13,10,13,10]:B8).length)) (some (j1++[48,13,10,13,10]))) N a [] fH (by simp only[ap];omega);rw[h1,A9 (by simp only[ae,ap]at h2⊢;omega)];exact⟨_,rfl,by simp only[ah,ae,ap]at h2⊢;omega⟩
def ACT (a b:List ApiField):ED (a++b)=ED a+ED b:=by simp[ED]
def AxD{n:Nat} (hn:n<=1000000) (hN:20<=N):Ok (Bi N (n:Int)) λr=>r.length<=13:=by unfold Bi;rw[aj (by simp only[au];omega),FV fH];obtain⟨r,h1,h2⟩:=Aee (N:=N) n fH hN;rw[h1];exact⟨_,rfl,h2⟩
def AMR{st:Nat} (hst:st<=1000000){ty body:B8}{fs:List ApiField} (c:Bool) (hty:ty.length<=1000) (hb:body.length<=50000) (hf:fs.length<=100) (hs:ED fs<=10000) (hN:1000000<=N):Ok (GN N (st:Int) ty body fs c) λr=>r.length<=ty.length+ED fs+4 * fs.length+body.length+6 * ((body.length+49) / 50)+110:=by
 have hd:=AxD (N:=N) hst fH;have key: ∀j:List ApiField,j.length<=1->ED j<=12+ty.length->Ok (grd (Ae (j.length+fs.length) 32) (if c=true then grd (Ae ((j++fs).length+1) 32) ((En N (ApiHead.mk 1 (st:Int) ((j++fs)++[(ApiField.mk ([116,114,97,110,115,102,101,114,45,101,110,99,111,100,105,110,103]:B8) ([99,104,117,110,107,101,100]:B8))]))).bind λy5=>(Gh N body 50).bind λy7=>grd (AL (y5.length+y7.length)) (some (y5++y7)))else(EH N (body.length:Int)).bind λy13=>grd (Ae ((j++fs).length+1) 32) ((En N (ApiHead.mk 1 (st:Int) ((j++fs)++[(ApiField.mk ([99,111,110,116,101,110,116,45,108,101,110,103,116,104]:B8) y13)]))).bind λy15=>grd (AL (y15.length+body.length)) (some (y15++body))))) λr=>r.length<=ty.length+ED fs+4 * fs.length+body.length+6 * ((body.length+49) / 50)+110:=by
  intro j hj hj2;have f1:Ae (j.length+fs.length) 32:=Hq fH fH;have f2:Ae ((j++fs).length+1) 32:=Hq (by rw[ah];omega) fH;rw[AO f1];cases c
  ·obtain⟨y,y1,y2⟩:=VI (N:=N) (n:=body.length) fH fH;have e1:ED ((j++fs)++[(ApiField.mk ([99,111,110,116,101,110,116,45,108,101,110,103,116,104]:B8) y)])=ED j+ED fs+(14+y.length):=by rw[VY,ACT];rfl
   have e2:((j++fs)++[(ApiField.mk ([99,111,110,116,101,110,116,45,108,101,110,103,116,104]:B8) y)]).length=j.length+fs.length+1:=by simp only[ah,bh]
   obtain⟨z,z1,z2⟩:=AnV (N:=N) (h:=⟨1,(st:Int),(j++fs)++[(ApiField.mk ([99,111,110,116,101,110,116,45,108,101,110,103,116,104]:B8) y)]⟩) hd (by simp only[e1,e2];omega);simp only[e1,e2]at z2;rw[aj fJ,y1,aa,AO f2,z1,aa,A9 fH];exact⟨_,rfl,by simp only[ah];omega⟩
  ·have e1:ED ((j++fs)++[(ApiField.mk ([116,114,97,110,115,102,101,114,45,101,110,99,111,100,105,110,103]:B8) ([99,104,117,110,107,101,100]:B8))])=ED j+ED fs+24:=by rw[VY,ACT];rfl
   have e2:((j++fs)++[(ApiField.mk ([116,114,97,110,115,102,101,114,45,101,110,99,111,100,105,110,103]:B8) ([99,104,117,110,107,101,100]:B8))]).length=j.length+fs.length+1:=by simp only[ah,bh]
   obtain⟨z,z1,z2⟩:=AnV (N:=N) (h:=⟨1,(st:Int),(j++fs)++[(ApiField.mk ([116,114,97,110,115,102,101,114,45,101,110,99,111,100,105,110,103]:B8) ([99,104,117,110,107,101,100]:B8))]⟩) hd (by simp only[e1,e2];omega);simp only[e1,e2]at z2;obtain⟨x,x1,x2⟩:=AaG (N:=N) (a:=body) fH hN;rw[an rfl,AO f2,z1,aa,x1,aa,A9 fH];exact⟨_,rfl,by simp only[ah];omega⟩
 unfold GN;simp only[AB];have f3:Ae (([]:List ApiField).length+1) 32:=Hq fI fH;by_cases h0:(ty==[])=true;·rw[an h0];exact key [] fI (by simp[ED])
 ·rw[aj h0,AO f3];exact key [⟨[99,111,110,116,101,110,116,45,116,121,112,101],ty⟩] fI (by simp[ED])
def VQ{u:ApiURL} (hu:KU u) (raw:B8):Ok (ET N u raw) λa=>a.raw=raw:=by unfold ET;rw[YH u ⟨hu.1.2.2.1,hu.1.2.2.2.1⟩];exact⟨_,rfl,rfl⟩
theorem AE3{h p:B8} (hh:h.length<=1000) (hp:p.length<=1000):KU ⟨h,0,p,[],[],false,false⟩:=by refine⟨⟨⟨bD _,(by show(0:Int)<=65535;decide)⟩,by simp only;omega,by simp only;omega,aK _,aK _⟩,?_⟩;have e:Im ⟨h,0,p,[],[],false,false⟩=([104,116,116,112,115,58,47,47]++hpF h 0)++Lm ⟨h,0,p,[],[],false,false⟩:=rfl;have t:Lm ⟨h,0,p,[],[],false,false⟩=p:=rfl;have l:=YT h 0;rw[e,t];simp only[ah,ae,ap];omega
def AFY (hN:1000000<=N){R:B8->Prop} (hR: ∀(st:Nat) (fs:List ApiField) (r:B8),(st=301\/st=302\/st=307)->fs.length<=1->ED fs<=6000->GN N (st:Int) [] [] fs false=some r->r.length<=7000->R r) (k2:List ApiAnswer×B8×Int×B8×B8×B8×Bool×Bool×MadeDice->Option (List ApiAnswer×MadeDice)) (P:List ApiAnswer×MadeDice->Prop) (hk: ∀(xs:List ApiAnswer) (u:ApiURL) (d:MadeDice),xs.length<=100->(∀a,a∈xs->a.raw.length<=5000/\R a.raw)->KU u->OM d->d.l.length<=1000->Ok (k2 (xs,u.host,u.port,u.path,u.query,u.fragment,u.hasQuery,u.hasFrag,d)) P):∀(k i:Nat) (xs:List ApiAnswer) (u:ApiURL) (d:MadeDice),i+k<=50->xs.length<=i->(∀a,a∈xs->a.raw.length<=5000/\R a.raw)->KU u->OM d->d.l.length<=1000->Ok (DC N k2 k (i:Int) xs u.host u.port u.path u.query u.fragment u.hasQuery u.hasFrag d) P
 |0,i,xs,u,d,h1,h2,h3,h4,h5,h6=>by rw[DC];exact hk xs u d fH h3 h4 h5 h6
 | k+1,i,xs,u,d,h1,h2,h3,h4,h5,h6=>by
  rw[DC];simp only[AB];refine .letL (.bind (Aiz h5 h6 fJ fJ fJ) λy ⟨hy,d1,d2⟩=>?_);refine .bind (Gg d1 d2 (n:=20) fH fH) λz ⟨⟨z0,z1⟩,e1,e2⟩=>?_;obtain⟨n,hn⟩: ∃n:Nat,z.1=(n:Int):=⟨z.1.toNat,fH⟩;rw[hn];refine .bind (VI (N:=N) (n:=n) fH fH) λa ha=>?_;refine .grd (by unfold AL;simp only[ae,ap];omega) ?_;refine .bind (VI (N:=N) (n:=i) fH fH) λb hb=>?_;refine .grd (by unfold AL;simp only[ah,ae,ap];omega) ?_;have hf:Cy N ⟨u.host,u.port,u.path,u.query,u.fragment,u.hasQuery,u.hasFrag⟩=some (Im u):=SI u h4.1 fH;have ht:Hu N ⟨u.host,u.port,u.path,u.query,u.fragment,u.hasQuery,u.hasFrag⟩=some (Lm u):=YH u ⟨h4.1.2.2.1,h4.1.2.2.2.1⟩;rw[hf,aa];simp only[ht,aa];have hg:KU ⟨y.1,0,(([47,114]:B8)++a)++b,[],[],false,false⟩:=AE3 fH (by simp only[ah,ae,ap];omega);have htl:(Lm u).length<=4096:=by
   have:=h4.2;unfold Im at this;split at this;·simp only[ah]at this;omega
   ·simp only[ah]at this;omega
  have last: ∀(loc:B8) (g:MadeDice),loc.length<=4096->OM g->g.l.length<=1000->Ok ((Aj N g 2).bind λy39=>(GN N (wr .i64 (302+(wr .i64 (5 * y39.1)))) [] [] [(ApiField.mk ([108,111,99,97,116,105,111,110]:B8) loc)] false).bind λy41=>(ET N (ApiURL.mk y.1 0 ((([47,114]:B8)++a)++b) [] [] false false) y41).bind λy43=>grd (Ae (xs.length+1) 80) (DC N k2 k ((i:Int)+1) (xs++[y43]) y.1 0 ((([47,114]:B8)++a)++b) [] [] false false y39.2)) P:=by
   intro loc g hl g1 g2;refine .bind (Gg g1 g2 (n:=2) fH fH) λw ⟨⟨w0,w1⟩,q1,q2⟩=>?_;have hst: ∃st:Nat,wr .i64 (302+(wr .i64 (5 * w.1)))=(st:Int)/\(st=302\/st=307):=by rw[Ai (n:=5 * w.1) fH,Ai fH];exact⟨(302+5 * w.1).toNat,fH,fH⟩
   obtain⟨st,s1,s2⟩:=hst;rw[s1];obtain⟨r,hr0,hr⟩:=AMR (N:=N) (st:=st) fH (ty:=[]) (body:=[]) (fs:=[⟨[108,111,99,97,116,105,111,110],loc⟩]) false fJ fJ fI (by simp[ED];omega) hN;rw[hr0,aa];refine .bind (VQ (N:=N) hg r) λc hc=>?_;refine .grd (Hq fH fH) ?_;rw[show(i:Int)+1=((i+1:Nat):Int) by omega];refine AFY hN hR k2 P hk k (i+1) (xs++[c]) ⟨y.1,0,(([47,114]:B8)++a)++b,[],[],false,false⟩ w.2 fH fK ?_ hg q1 q2;intro v hv;rcases aZ.1 hv with hv|hv;·exact h3 v hv
   ·rw[aY.1 hv,hc];have hr':=hr;simp[ED]at hr';exact⟨fH,hR st _ r fH fI (by simp[ED];omega) hr0 fH⟩
  refine .bind (Gg e1 e2 (n:=20) fH fH) λt ⟨_,t1,t2⟩=>?_;have c1:([104,116,116,112,58,47,47,97,46,101,120,97,109,112,108,101,47]:B8).length<=4096:=fJ;have c2:([63]:B8).length<=4096:=fJ;have c3:=h4.2;refine .ite (λ_=>?_) λ_=>.ite (λ_=>?_) λ_=>?_;·refine .ite (λ_=>.bind (Gg t1 t2 (n:=2) fH fH) λv ⟨hv,v1,v2⟩=>.ite (λ_=>last _ _ htl v1 v2) λ_=>last _ _ c1 v1 v2) λ_=>?_;simp only[aq,az];exact last _ _ c1 t1 t2
  ·refine .ite (λ_=>.bind (Gg t1 t2 (n:=2) fH fH) λv ⟨hv,v1,v2⟩=>.ite (λ_=>last _ _ htl v1 v2) λ_=>last _ _ c2 v1 v2) λ_=>?_;simp only[aq,az];exact last _ _ c2 t1 t2
  ·refine .ite (λ_=>.bind (Gg t1 t2 (n:=2) fH fH) λv ⟨hv,v1,v2⟩=>.ite (λ_=>last _ _ htl v1 v2) λ_=>last _ _ c3 v1 v2) λ_=>?_;simp only[aq,az];exact last _ _ c3 t1 t2
def Aqv (hN:1000000<=N){R:B8->Prop} (hR: ∀(st:Nat) (fs:List ApiField) (r:B8),(st=301\/st=302\/st=307)->fs.length<=1->ED fs<=6000->GN N (st:Int) [] [] fs false=some r->r.length<=7000->R r){n:Nat} (hn:n<=49){u:ApiURL} (hu:KU u){d:MadeDice} (hd:OM d) (hl:d.l.length<=1000):Ok (Ji N d u (n:Int)) λr=>(1<=r.1.length/\r.1.length<=101/\(∀a,a∈r.1->a.raw.length<=5000)/\∀a,a∈r.1.take (r.1.length-1)->R a.raw)/\OM r.2/\r.2.l.length<=1000:=by
 unfold Ji;rw[AB];refine .grd fH ?_;rw[show((n:Int)-0).toNat=n by omega,show(0:Int)=((0:Nat):Int)from rfl];refine AFY hN hR _ _ ?_ n 0 [] u d fH fI fI hu hd hl;intro xs v g h1 h2 h3 h4 h5;have hf:Cy N ⟨v.host,v.port,v.path,v.query,v.fragment,v.hasQuery,v.hasFrag⟩=some (Im v):=SI v h3.1 fH;simp only[hf,aa];refine .bind (VQ (N:=N) Ze (Im v)) λc hc=>?_;refine .grd (Hq fH fH) (.ret ⟨⟨fI,fK,?_,?_⟩,h4,h5⟩);rotate_left;·intro a ha;have:(xs++[c]).take ((xs++[c]).length-1)=xs:=fI;rw[this]at ha;exact(h2 a ha).2
 intro a ha;rcases aZ.1 ha with ha|ha;·exact(h2 a ha).1
 ·rw[aY.1 ha,hc];have:=h3.2;omega
def Aqi (hN:1000000<=N){R:B8->Prop} (hR: ∀(st:Nat) (fs:List ApiField) (r:B8),(st=301\/st=302\/st=307)->fs.length<=1->ED fs<=6000->GN N (st:Int) [] [] fs false=some r->r.length<=7000->R r){u:ApiURL} (hu:KU u){raw:B8} (hr:R raw){d:MadeDice} (hd:OM d) (hl:d.l.length<=1000):Ok (Ob N d u raw) λr=>(r.1.length<=200/\∀a,a∈r.1->R a.raw)/\OM r.2/\r.2.l.length<=1000:=by
 unfold Ob;simp only[AB,AIG];have main: ∀(n:Int) (g:MadeDice),0<=n->n<7->OM g->g.l.length<=1000->Ok (if(n==0)=true then(ET N u raw).bind λy9=>some ([y9],g)else letL ([([97,46,101,120,97,109,112,108,101]:B8),([101,46,101,120,97,109,112,108,101]:B8)]:(List B8)) λl11=>(BP N g l11).bind λy12=>(Aj N y12.2 9).bind λy14=>(EH N y14.1).bind λy16=>grd (AL (([47,101,110,100]:B8).length+y16.length)) ((Ji N y14.2 (ApiURL.mk y12.1 0 (([47,101,110,100]:B8)++y16) [] [] false false) (wr .i64 (n-1))).bind λy18=>(idx y18.1 (wr .i64 ((y18.1.length:Int)-1))).bind λx20=>(sub y18.1 0 (wr .i64 ((y18.1.length:Int)-1))).bind λx21=>(ET N (ApiURL.mk y12.1 0 (([47,101,110,100]:B8)++y16) [] [] false false) raw).bind λy22=>grd (Ae (x21.length+1) 80) ((GN N 301 [] [] [(ApiField.mk ([108,111,99,97,116,105,111,110]:B8) x20.raw)] false).bind λy24=>(ET N u y24).bind λy26=>grd (Ae ((x21++[y22]).length+1) 80) (some (((x21++[y22])++[y26]),y18.2))))) λr=>(r.1.length<=200/\∀a,a∈r.1->R a.raw)/\OM r.2/\r.2.l.length<=1000:=by
  intro n g n0 n7 g1 g2;refine .ite (λ_=>.bind (VQ (N:=N) hu raw) λc hc=>.ret ⟨⟨fI,λa ha=>by rw[aY.1 ha,hc];exact hr⟩,g1,g2⟩) λhne=>?_;have hn0:n≠0:=by simpa using hne
  refine .letL (.bind (Aiz g1 g2 fJ fJ fJ) λy ⟨hy,d1,d2⟩=>?_);refine .bind (Gg d1 d2 (n:=9) fH fH) λz ⟨⟨z0,z1⟩,e1,e2⟩=>?_;obtain⟨m,hm⟩: ∃m:Nat,z.1=(m:Int):=⟨z.1.toNat,fH⟩;rw[hm];refine .bind (VI (N:=N) (n:=m) fH fH) λa ha=>?_;refine .grd (by unfold AL;simp only[ae,ap];omega) ?_;have hg:KU ⟨y.1,0,([47,101,110,100]:B8)++a,[],[],false,false⟩:=AE3 fH (by simp only[ah,ae,ap];omega);obtain⟨q,hq⟩: ∃q:Nat,n-1=(q:Int):=⟨(n-1).toNat,fH⟩;rw[Ai (n:=n-1) fH,hq];refine .bind (Aqv hN hR (n:=q) fH hg e1 e2) λw ⟨⟨w1,w2,w3,w4⟩,f1,f2⟩=>?_;have hw:wr .i64 ((w.1.length:Int)-1)=((w.1.length-1:Nat):Int):=by rw[Ai fH];omega
  have hx:idx w.1 ((w.1.length-1:Nat):Int)=some w.1[w.1.length-1]:=by rw[Ea];exact aS fH
  have hs:=A8 w.1 0 (w.1.length-1) fH fH;rw[aO,bB,show((0:Nat):Int)=0 from rfl]at hs;rw[hw,hx,aa,hs,aa];have hraw:=w3 w.1[w.1.length-1] (List.getElem_mem _);have hlen:(w.1.take (w.1.length-1)).length<=101:=by rw[bg];omega
  refine .bind (VQ (N:=N) hg raw) λc hc=>?_;refine .grd (Hq fH fH) ?_;rw[show(301:Int)=((301:Nat):Int)from rfl];obtain⟨r,hr0,hr2⟩:=AMR (N:=N) (st:=301) fH (ty:=[]) (body:=[]) (fs:=[⟨[108,111,99,97,116,105,111,110],w.1[w.1.length-1].raw⟩]) false fJ fJ fI (by simp[ED];omega) hN;rw[hr0,aa];refine .bind (VQ (N:=N) hu r) λv hv=>?_;refine .grd (Hq (by simp only[ah,bh];omega) fH) (.ret ⟨⟨by simp only[ah,bh];omega,?_⟩,f1,f2⟩);intro b hb;rcases aZ.1 hb with hb|hb
  ·rcases aZ.1 hb with hb|hb;·exact w4 b hb
   ·rw[aY.1 hb,hc];exact hr
  ·rw[aY.1 hb,hv];have hr':=hr2;simp[ED]at hr';exact hR 301 _ r fH fI (by simp[ED];omega) hr0 fH
 refine .bind (Gg hd hl (n:=3) fH fH) λy ⟨_,d1,d2⟩=>?_;refine .ite (λ_=>?_) λ_=>main 0 _ fH fH d1 d2;exact .bind (Gg d1 d2 (n:=7) fH fH) λz ⟨⟨z0,z1⟩,e1,e2⟩=>main z.1 _ z0 fH e1 e2
end
end Go.VM
